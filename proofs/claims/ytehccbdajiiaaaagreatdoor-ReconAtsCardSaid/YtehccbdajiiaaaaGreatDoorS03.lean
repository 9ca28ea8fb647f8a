import Derived.WalkKit
import Derived.WalkSpells
import Derived.WalkLawsBesides
import Derived.Lib.Hide
import Derived.Maps.AppendAt
import Derived.Deep.AppendLies
import Derived.Deep.QuietTactic
import Derived.BigQuiet
import Derived.ArgAppend
import Derived.Laws.IdiomCopy
abbrev Go.RowKit.Below.x:=@Go.RowKit.Below.trans
abbrev Go.RowKit.Below.m:=@Go.RowKit.Below.mono
abbrev Eq.x:=@Eq.trans
abbrev Iff.x:=@Iff.trans
abbrev Go.Calls.m:=@Go.Calls.mono
abbrev Go.CallsIn.m:=@Go.CallsIn.mono
abbrev Go.RoundIn.m:=@Go.RoundIn.mono
theorem Go.RowKit.Hid.o{p:Prop}(h:Go.RowKit.Hid p):p:=h
theorem And.d{a b c:Prop}(h:a/\b/\c):c:=h.2.2
theorem And.t{a b c d:Prop}(h:a/\b/\c/\d):d:=h.2.2.2
theorem And.q{a b c d e:Prop}(h:a/\b/\c/\d/\e):e:=h.2.2.2.2
namespace Go.Proofs.YtehccbdajiiaaaaGreatDoor
abbrev rm(a:Int):Value:=.int .i64 a
abbrev rv(a:Nat):Value:=.pointer (some ⟨a,0,none⟩)
abbrev r7(a:List UInt8):Value:=.string ⟨a.toArray⟩
abbrev r8(a:Int)(b:Int)(c:Int)(d:Int):Obj:=.cells #[.int .i64 a,.int .i64 b,.int .i64 c,.int .i64 d] 109
abbrev sa(a:Int)(b:Int)(c:Int)(d:Int)(e:Int):Obj:=.cells #[.int .i64 a,.int .i64 b,.int .i64 c,.int .i64 d,.int .i64 e] 64
abbrev sd(a:Bool)(b:Int)(c:Array UInt8)(d:Int)(e:Int):Obj:=.cells #[.bool a,.int .i64 b,.string ⟨c⟩,.int .i64 d,.int .i64 e] 68
abbrev sg(a:Int)(b:Int):Obj:=.cells #[.int .i64 a,.int .i64 b] 80
abbrev sh(a:Array UInt8)(b:Array UInt8):Obj:=.cells #[.string ⟨a⟩,.string ⟨b⟩] 220
abbrev sl(a:Int)(b:Int)(c:Int):Obj:=.cells #[.int .i64 a,.int .i64 b,.int .i64 c] 50
abbrev sn(a:Int)(b:Int)(c:Int):Obj:=.cells #[.int .i64 a,.int .i64 b,.int .i64 c] 24
abbrev so(a:Nat):Obj:=.cells #[.pointer (some ⟨a,0,none⟩)] 169
abbrev sq(a:Int):Obj:=.cells #[.int .i64 a,.slice none 0 0,.slice none 0 0,.slice none 0 0] 96
abbrev sr(a:Int)(b:Array UInt8):Obj:=.cells #[.int .i64 a,.string ⟨b⟩] 273
abbrev sv(a:Int)(b:Int)(c:Nat):Obj:=.cells #[.int .i64 a,.int .i64 b,.pointer (some ⟨c,0,none⟩)] 175
abbrev sz(a:Int):Obj:=.cells #[.int .i64 a,.pointer none,.pointer none,.pointer none,.pointer none,.pointer none] 116
abbrev sC(a:Int)(b:Option Addr)(c d:Nat)(e:Option Addr)(f g:Nat)(h:Option Addr)(i j:Nat):Obj:=.cells #[.int .i64 a,.slice b c d,.slice e f g,.slice h i j] 96
abbrev sE(a:Int)(b:Int)(c:Array UInt8)(d:Bool):Obj:=.cells #[.int .i64 a,.int .i64 b,.string ⟨c⟩,.bool d] 275
abbrev sR(a:Nat):Obj:=.cells #[.pointer (some ⟨a,0,none⟩)] 45
abbrev ta:Obj:=.cells #[.slice none 0 0,.slice none 0 0] 173
abbrev tb(a:Int)(b:Int)(c:Option Addr)(d e:Nat)(f:Int):Obj:=.cells #[.int .i64 a,.int .i64 b,.slice c d e,.int .i64 f] 60
abbrev tc(a:Option Addr)(b c:Nat):Obj:=.cells #[.slice a b c] 37
abbrev td(a:Int):Obj:=.cells #[.int .i64 a] 3
abbrev te(a:Value)(b:Value):Obj:=.cells #[a,b] 173
abbrev tg:Obj:=.cells #[.slice none 0 0] 37
abbrev th(a:Int)(b:Int)(c:Int):Obj:=.cells #[.int .i64 a,.int .i64 b,.slice none 0 0,.int .i64 c] 60
abbrev ti(a:Int)(b:Array UInt8):Obj:=.cells #[.int .i64 a,.string ⟨b⟩] 304
abbrev tk(a:Nat)(b:Int):Obj:=.cells #[.pointer (some ⟨a,0,none⟩),.int .i64 b] 245
abbrev tm:Obj:=.cells #[.slice none 0 0,.slice none 0 0,.slice none 0 0,.slice none 0 0] 75
abbrev tn(a:Array UInt8)(b:Value):Obj:=.cells #[.string ⟨a⟩,b] 159
abbrev tr(a:Nat):Obj:=.cells #[.pointer (some ⟨a,0,none⟩)] 189
abbrev tw(a:Int):Obj:=.cells #[.int .i64 a] 33
abbrev tx(a:Array UInt8):Obj:=.cells #[.string ⟨a⟩] 9
abbrev uc(a:Nat):Obj:=.cells #[.pointer (some ⟨a,0,none⟩)] 135
abbrev ud(a:Nat)(b:Value):Obj:=.cells #[.pointer (some ⟨a,0,none⟩),b] 140
abbrev ue(a:Value):Obj:=.cells #[a,.slice none 0 0] 173
abbrev uv(a:Value):Obj:=.cells #[.slice none 0 0,a] 173
abbrev uD:Obj:=.cells #[.slice none 0 0] 122
theorem xF{a b c:Prop}(x0:a)(x1:b)(x2:c):a/\b/\c:=⟨x0,x1,x2⟩
theorem xT{a b c d:Prop}(x0:a)(x1:b)(x2:c)(x3:d):a/\b/\c/\d:=⟨x0,x1,x2,x3⟩
theorem yk{a b c d e:Prop}(x0:a)(x1:b)(x2:c)(x3:d)(x4:e):a/\b/\c/\d/\e:=⟨x0,x1,x2,x3,x4⟩
theorem yv{a b c d e f:Prop}(x0:a)(x1:b)(x2:c)(x3:d)(x4:e)(x5:f):a/\b/\c/\d/\e/\f:=⟨x0,x1,x2,x3,x4,x5⟩
theorem yy{a b c d e f g:Prop}(x0:a)(x1:b)(x2:c)(x3:d)(x4:e)(x5:f)(x6:g):a/\b/\c/\d/\e/\f/\g:=⟨x0,x1,x2,x3,x4,x5,x6⟩
theorem yW{a b c d e f g h:Prop}(x0:a)(x1:b)(x2:c)(x3:d)(x4:e)(x5:f)(x6:g)(x7:h):a/\b/\c/\d/\e/\f/\g/\h:=⟨x0,x1,x2,x3,x4,x5,x6,x7⟩
theorem zc{a b c d e f g h i:Prop}(x0:a)(x1:b)(x2:c)(x3:d)(x4:e)(x5:f)(x6:g)(x7:h)(x8:i):a/\b/\c/\d/\e/\f/\g/\h/\i:=⟨x0,x1,x2,x3,x4,x5,x6,x7,x8⟩
theorem zp{a b c d e f g h i j:Prop}(x0:a)(x1:b)(x2:c)(x3:d)(x4:e)(x5:f)(x6:g)(x7:h)(x8:i)(x9:j):a/\b/\c/\d/\e/\f/\g/\h/\i/\j:=⟨x0,x1,x2,x3,x4,x5,x6,x7,x8,x9⟩
theorem An{a b c d e f g h i j k:Prop}(x0:a)(x1:b)(x2:c)(x3:d)(x4:e)(x5:f)(x6:g)(x7:h)(x8:i)(x9:j)(x10:k):a/\b/\c/\d/\e/\f/\g/\h/\i/\j/\k:=⟨x0,x1,x2,x3,x4,x5,x6,x7,x8,x9,x10⟩
theorem As{a b c d e f g h i j k l:Prop}(x0:a)(x1:b)(x2:c)(x3:d)(x4:e)(x5:f)(x6:g)(x7:h)(x8:i)(x9:j)(x10:k)(x11:l):a/\b/\c/\d/\e/\f/\g/\h/\i/\j/\k/\l:=⟨x0,x1,x2,x3,x4,x5,x6,x7,x8,x9,x10,x11⟩
theorem AD{a b:Prop}(x0:a)(x1:b):Go.RowKit.Hid (a/\b):=⟨x0,x1⟩
theorem AF{a b c:Prop}(x0:a)(x1:b)(x2:c):Go.RowKit.Hid (a/\b/\c):=⟨x0,x1,x2⟩
theorem AI{a b c d:Prop}(x0:a)(x1:b)(x2:c)(x3:d):Go.RowKit.Hid (a/\b/\c/\d):=⟨x0,x1,x2,x3⟩
theorem AM{a b c d e:Prop}(x0:a)(x1:b)(x2:c)(x3:d)(x4:e):Go.RowKit.Hid (a/\b/\c/\d/\e):=⟨x0,x1,x2,x3,x4⟩
theorem AN{a b c d e f:Prop}(x0:a)(x1:b)(x2:c)(x3:d)(x4:e)(x5:f):Go.RowKit.Hid (a/\b/\c/\d/\e/\f):=⟨x0,x1,x2,x3,x4,x5⟩
theorem AS{a b c d e f g:Prop}(x0:a)(x1:b)(x2:c)(x3:d)(x4:e)(x5:f)(x6:g):Go.RowKit.Hid (a/\b/\c/\d/\e/\f/\g):=⟨x0,x1,x2,x3,x4,x5,x6⟩
theorem By{a b c d e f g h:Prop}(x0:a)(x1:b)(x2:c)(x3:d)(x4:e)(x5:f)(x6:g)(x7:h):Go.RowKit.Hid (a/\b/\c/\d/\e/\f/\g/\h):=⟨x0,x1,x2,x3,x4,x5,x6,x7⟩
theorem BE{a b c d e f g h i:Prop}(x0:a)(x1:b)(x2:c)(x3:d)(x4:e)(x5:f)(x6:g)(x7:h)(x8:i):Go.RowKit.Hid (a/\b/\c/\d/\e/\f/\g/\h/\i):=⟨x0,x1,x2,x3,x4,x5,x6,x7,x8⟩
theorem BT{a b c d e f g h i j:Prop}(x0:a)(x1:b)(x2:c)(x3:d)(x4:e)(x5:f)(x6:g)(x7:h)(x8:i)(x9:j):Go.RowKit.Hid (a/\b/\c/\d/\e/\f/\g/\h/\i/\j):=⟨x0,x1,x2,x3,x4,x5,x6,x7,x8,x9⟩
theorem BY{a b c d e f g h i j k:Prop}(x0:a)(x1:b)(x2:c)(x3:d)(x4:e)(x5:f)(x6:g)(x7:h)(x8:i)(x9:j)(x10:k):Go.RowKit.Hid (a/\b/\c/\d/\e/\f/\g/\h/\i/\j/\k):=⟨x0,x1,x2,x3,x4,x5,x6,x7,x8,x9,x10⟩
theorem B7{a b c d e f g h i j k l:Prop}(x0:a)(x1:b)(x2:c)(x3:d)(x4:e)(x5:f)(x6:g)(x7:h)(x8:i)(x9:j)(x10:k)(x11:l):Go.RowKit.Hid (a/\b/\c/\d/\e/\f/\g/\h/\i/\j/\k/\l):=⟨x0,x1,x2,x3,x4,x5,x6,x7,x8,x9,x10,x11⟩
theorem B9{a b c d e f g h i j k l m:Prop}(x0:a)(x1:b)(x2:c)(x3:d)(x4:e)(x5:f)(x6:g)(x7:h)(x8:i)(x9:j)(x10:k)(x11:l)(x12:m):Go.RowKit.Hid (a/\b/\c/\d/\e/\f/\g/\h/\i/\j/\k/\l/\m):=⟨x0,x1,x2,x3,x4,x5,x6,x7,x8,x9,x10,x11,x12⟩
theorem Cd{a b c d e f g h i j k l m n:Prop}(x0:a)(x1:b)(x2:c)(x3:d)(x4:e)(x5:f)(x6:g)(x7:h)(x8:i)(x9:j)(x10:k)(x11:l)(x12:m)(x13:n):Go.RowKit.Hid (a/\b/\c/\d/\e/\f/\g/\h/\i/\j/\k/\l/\m/\n):=⟨x0,x1,x2,x3,x4,x5,x6,x7,x8,x9,x10,x11,x12,x13⟩
theorem Cp{a b c d e f g h i j k l m n o:Prop}(x0:a)(x1:b)(x2:c)(x3:d)(x4:e)(x5:f)(x6:g)(x7:h)(x8:i)(x9:j)(x10:k)(x11:l)(x12:m)(x13:n)(x14:o):Go.RowKit.Hid (a/\b/\c/\d/\e/\f/\g/\h/\i/\j/\k/\l/\m/\n/\o):=⟨x0,x1,x2,x3,x4,x5,x6,x7,x8,x9,x10,x11,x12,x13,x14⟩
theorem Dg{a b c d e f g h i j k l m n o p:Prop}(x0:a)(x1:b)(x2:c)(x3:d)(x4:e)(x5:f)(x6:g)(x7:h)(x8:i)(x9:j)(x10:k)(x11:l)(x12:m)(x13:n)(x14:o)(x15:p):Go.RowKit.Hid (a/\b/\c/\d/\e/\f/\g/\h/\i/\j/\k/\l/\m/\n/\o/\p):=⟨x0,x1,x2,x3,x4,x5,x6,x7,x8,x9,x10,x11,x12,x13,x14,x15⟩
theorem DE{a b c d e f g h i j k l m n o p q:Prop}(x0:a)(x1:b)(x2:c)(x3:d)(x4:e)(x5:f)(x6:g)(x7:h)(x8:i)(x9:j)(x10:k)(x11:l)(x12:m)(x13:n)(x14:o)(x15:p)(x16:q):Go.RowKit.Hid (a/\b/\c/\d/\e/\f/\g/\h/\i/\j/\k/\l/\m/\n/\o/\p/\q):=⟨x0,x1,x2,x3,x4,x5,x6,x7,x8,x9,x10,x11,x12,x13,x14,x15,x16⟩
theorem DH{a b c d e f g h i j k l m n o p q r:Prop}(x0:a)(x1:b)(x2:c)(x3:d)(x4:e)(x5:f)(x6:g)(x7:h)(x8:i)(x9:j)(x10:k)(x11:l)(x12:m)(x13:n)(x14:o)(x15:p)(x16:q)(x17:r):Go.RowKit.Hid (a/\b/\c/\d/\e/\f/\g/\h/\i/\j/\k/\l/\m/\n/\o/\p/\q/\r):=⟨x0,x1,x2,x3,x4,x5,x6,x7,x8,x9,x10,x11,x12,x13,x14,x15,x16,x17⟩
theorem DO{a b c d e f g h i j k l m n o p q r s:Prop}(x0:a)(x1:b)(x2:c)(x3:d)(x4:e)(x5:f)(x6:g)(x7:h)(x8:i)(x9:j)(x10:k)(x11:l)(x12:m)(x13:n)(x14:o)(x15:p)(x16:q)(x17:r)(x18:s):Go.RowKit.Hid (a/\b/\c/\d/\e/\f/\g/\h/\i/\j/\k/\l/\m/\n/\o/\p/\q/\r/\s):=⟨x0,x1,x2,x3,x4,x5,x6,x7,x8,x9,x10,x11,x12,x13,x14,x15,x16,x17,x18⟩
theorem DP{a b c d e f g h i j k l m n o p q r s t:Prop}(x0:a)(x1:b)(x2:c)(x3:d)(x4:e)(x5:f)(x6:g)(x7:h)(x8:i)(x9:j)(x10:k)(x11:l)(x12:m)(x13:n)(x14:o)(x15:p)(x16:q)(x17:r)(x18:s)(x19:t):Go.RowKit.Hid (a/\b/\c/\d/\e/\f/\g/\h/\i/\j/\k/\l/\m/\n/\o/\p/\q/\r/\s/\t):=⟨x0,x1,x2,x3,x4,x5,x6,x7,x8,x9,x10,x11,x12,x13,x14,x15,x16,x17,x18,x19⟩
theorem DQ{a b c d e f g h i j k l m n o p q r s t u:Prop}(x0:a)(x1:b)(x2:c)(x3:d)(x4:e)(x5:f)(x6:g)(x7:h)(x8:i)(x9:j)(x10:k)(x11:l)(x12:m)(x13:n)(x14:o)(x15:p)(x16:q)(x17:r)(x18:s)(x19:t)(x20:u):Go.RowKit.Hid (a/\b/\c/\d/\e/\f/\g/\h/\i/\j/\k/\l/\m/\n/\o/\p/\q/\r/\s/\t/\u):=⟨x0,x1,x2,x3,x4,x5,x6,x7,x8,x9,x10,x11,x12,x13,x14,x15,x16,x17,x18,x19,x20⟩
theorem DS{a b c d e f g h i j k l m n o p q r s t u v:Prop}(x0:a)(x1:b)(x2:c)(x3:d)(x4:e)(x5:f)(x6:g)(x7:h)(x8:i)(x9:j)(x10:k)(x11:l)(x12:m)(x13:n)(x14:o)(x15:p)(x16:q)(x17:r)(x18:s)(x19:t)(x20:u)(x21:v):Go.RowKit.Hid (a/\b/\c/\d/\e/\f/\g/\h/\i/\j/\k/\l/\m/\n/\o/\p/\q/\r/\s/\t/\u/\v):=⟨x0,x1,x2,x3,x4,x5,x6,x7,x8,x9,x10,x11,x12,x13,x14,x15,x16,x17,x18,x19,x20,x21⟩
theorem D0{a b c d e f g h i j k l m n o p q r s t u v w:Prop}(x0:a)(x1:b)(x2:c)(x3:d)(x4:e)(x5:f)(x6:g)(x7:h)(x8:i)(x9:j)(x10:k)(x11:l)(x12:m)(x13:n)(x14:o)(x15:p)(x16:q)(x17:r)(x18:s)(x19:t)(x20:u)(x21:v)(x22:w):Go.RowKit.Hid (a/\b/\c/\d/\e/\f/\g/\h/\i/\j/\k/\l/\m/\n/\o/\p/\q/\r/\s/\t/\u/\v/\w):=⟨x0,x1,x2,x3,x4,x5,x6,x7,x8,x9,x10,x11,x12,x13,x14,x15,x16,x17,x18,x19,x20,x21,x22⟩
theorem D1{a b c d e f g h i j k l m n o p q r s t u v w x:Prop}(x0:a)(x1:b)(x2:c)(x3:d)(x4:e)(x5:f)(x6:g)(x7:h)(x8:i)(x9:j)(x10:k)(x11:l)(x12:m)(x13:n)(x14:o)(x15:p)(x16:q)(x17:r)(x18:s)(x19:t)(x20:u)(x21:v)(x22:w)(x23:x):Go.RowKit.Hid (a/\b/\c/\d/\e/\f/\g/\h/\i/\j/\k/\l/\m/\n/\o/\p/\q/\r/\s/\t/\u/\v/\w/\x):=⟨x0,x1,x2,x3,x4,x5,x6,x7,x8,x9,x10,x11,x12,x13,x14,x15,x16,x17,x18,x19,x20,x21,x22,x23⟩
set_option maxRecDepth 100000
open Go.RowKit
theorem ab {a b:Prop} (h:a) (k:b):a/\b:=⟨h,k⟩
theorem al {p:Prop} (h:p):Go.RowKit.Hid p:=h
abbrev an:=@heap_alloc_new
abbrev ao:=@List.getElem?_eq_getElem
abbrev aq:=@World.block_lt_of_cell?
abbrev aw:=@List.getElem?_eq_some_iff
abbrev bd:=@Below.refl
abbrev b8:=@Nat.le_refl
abbrev cq:=@Array.getElem?_eq_some_iff
abbrev da:=@Nat.lt_of_lt_of_le
abbrev db:=@List.mem_of_getElem?
abbrev dd:=@Nat.le_trans
abbrev de:=@List.eq_nil_of_length_eq_zero
abbrev dj:=@bodyPost_ret
abbrev dp:=@heap_setCell_same
abbrev dq:=@Nat.zero_le
abbrev dr:=@List.mem_append
abbrev du:=@results_none
abbrev dy:=@World.ownsRow_nil
abbrev ea:=@Nat.mul_le_mul_right
abbrev eb:=@World.news_of_block
abbrev ee:=@List.Pairwise.nil
abbrev eh:=@info_parts
abbrev ep:=@List.mem_map
abbrev et:=@wpList_append_lies
abbrev ew:=@bodyPost_end
abbrev eC:=@Option.some.inj
abbrev eE:=@congrArg
abbrev eL:=@Int.le_refl
abbrev eM:=@List.pairwise_cons
abbrev eR:=@List.drop_eq_nil_of_le
abbrev eS:=@List.mem_cons
abbrev fa:=@List.length_map
abbrev fb:=@if_neg
abbrev ff:=@if_pos
abbrev fi:=@Option.some.injEq
abbrev fj:=@List.nil_append
abbrev fl:=@Array.getElem?_eq_getElem
abbrev fm:=@List.take_of_length_le
abbrev fs:=@List.append_nil
abbrev gd:=@Array.getElem?_setIfInBounds
abbrev gk:=@List.mem_singleton
abbrev gn:=@List.length_cons
abbrev gr:=@List.length_append
abbrev gx:=@Exit.noGoto_ret
abbrev gC:=@Nat.add_assoc
abbrev gE:=@List.take_length
abbrev gO:=@List.take_add_one
abbrev gR:=@List.map_append
abbrev ie:=@Nat.zero_add
abbrev im:=@List.length_take
abbrev ir:=@Addr.add_lit
abbrev iv:=@List.getElem?_append_right
abbrev ix:=@Value.slice.injEq
abbrev iS:=@Int.toNat_natCast
abbrev jj:=@List.getElem?_cons_zero
abbrev kb:=@List.map_nil
abbrev kh:=@List.append_assoc
abbrev kn:=@List.take_zero
abbrev kt:=@List.map_cons
abbrev la:=@List.flatten_append
abbrev lk:=@List.getElem?_append_left
abbrev lp:=@List.length_nil
abbrev lr:=@Nat.succ_mul
abbrev lx:=@List.map_drop
abbrev lz:=@List.size_toArray
abbrev lE:=@List.cons_append
abbrev lP:=@List.getElem?_take
abbrev mc:=@List.map_take
abbrev me:=@IntKind.wrap_i64
abbrev mu:=@Bool.and_eq_true
abbrev mv:=@Prod.mk.injEq
abbrev mw:=@List.getElem?_drop
abbrev my:=@List.length_drop
abbrev mS:=@Nat.add_zero
abbrev mT:=@Option.isSome_some
abbrev nf:=@Bool.false_eq_true
abbrev nh:=@List.getElem?_map
abbrev nw:=@Addr.mk.injEq
abbrev nx:=@Option.isSome_none
abbrev nF:=@List.filter_append
abbrev oe:=@Nat.min_eq_left
abbrev ox:=@Nat.add_sub_cancel
abbrev oy:=@Option.getD_some
structure Only (S:Nat->Prop) (w w':World):Prop where
 os:w'.os=w.os
 tape:w'.tape=w.tape
 output:w'.output=w.output
 size:w.heap.size<=w'.heap.size
 block: ∀k,k<w.heap.size-> ¬S k->w'.heap[k]?=w.heap[k]?
section
variable{S T:Nat->Prop}{w w' w'':World}
theorem Only.refl(S:Nat->Prop)(w:World):Only S w w:=⟨rfl,rfl,rfl,b8 _,fun _ _ _=>rfl⟩
theorem Only.trans(h:Only S w w')(k:Only T w' w'')(d: ∀i,i<w.heap.size->T i->S i):Only S w w'':=
 ⟨k.os.x h.os,k.tape.x h.tape,k.output.x h.output,dd h.size k.size,
  fun i a b=>(k.block i (da a h.size) (fun c=>b (d i a c))).x (h.block i a b)⟩
abbrev Only.x:=@Only.trans
theorem Only.mono(h:Only S w w')(d: ∀i,i<w.heap.size->S i->T i):Only T w w':=
 ⟨h.os,h.tape,h.output,h.size,fun i a b=>h.block i a (fun c=>b (d i a c))⟩
abbrev Only.m:=@Only.mono
theorem Only.drew(h:Only S w w'):Only S w w'.drew:=⟨h.os,h.tape,h.output,h.size,h.block⟩
theorem Only.drewN(h:Only S w w')(n:Nat):Only S w (w'.drewN n):=⟨h.os,h.tape,h.output,h.size,h.block⟩
theorem Only.alloc(h:Only S w w')(o:Obj):Only S w (w'.alloc o):=
 h.trans (T:=S) ⟨rfl,rfl,rfl,by simp,fun k a _=>Below.heap_alloc _ _ _ a⟩ (fun _ _ a=>a)
theorem Only.setCell(h:Only S w w'){p:Addr}(a:p.block<w.heap.size->S p.block)(u:Value):Only S w (w'.setCell p u):=
 h.trans (T:=fun k=>k=p.block) ⟨rfl,rfl,rfl,by simp[World.setCell],fun k _ b=>Below.heap_setCell _ _ _ _ b⟩ (fun i b e=>by subst e;exact a b)
theorem Only.grown(h:Only S w w'){b:Option Nat}(a:w'.grownBy w'' b)(c: ∀k,b=some k->k<w.heap.size->S k):Only S w w'':=
 h.trans (T:=fun k=>b=some k) ⟨a.os,a.tape,a.output,a.size,fun k d b=>a.block k d (fun e=>b e.symm)⟩ (fun i a e=>c i e a)
theorem Only.of_grownBy{b:Option Nat}(a:w.grownBy w' b):Only (fun k=>b=some k) w w':=
 ⟨a.os,a.tape,a.output,a.size,fun k c b=>a.block k c (fun e=>b e.symm)⟩
theorem Only.of_below(h:Below w.heap.size w w')(S:Nat->Prop):Only S w w':=⟨h.os,h.tape,h.output,h.size,fun k a _=>h.block k a⟩
theorem Only.below(h:Only S w w')(b: ∀k,k<w.heap.size-> ¬S k):Below w.heap.size w w':=⟨h.os,h.tape,h.output,h.size,fun k a=>h.block k a (b k a)⟩
theorem Only.aH{N:Nat}(h:Only S w w')(a:N<=w.heap.size)(b: ∀k,k<N-> ¬S k):Below N w w':=⟨h.os,h.tape,h.output,h.size,fun k a=>h.block k (by omega) (b k a)⟩
theorem Only.cell(h:Only S w w'){p:Addr}{v:Value}(a:w.cell? p=some v)(b: ¬S p.block):w'.cell? p=some v:=
 (World.cell?_of_block (h.block p.block (aq w p a) b)).x a
theorem Only.heap(h:Only S w w'){k:Nat}{o:Obj}(a:w.heap[k]?=some o)(b: ¬S k):w'.heap[k]?=some o:=
 (h.block k (cq.1 a).1 b).x a
end
theorem _root_.Go.RowKit.Below.WZ{B:Nat}{w w':World}(h:Below B w w'):Only (fun k=>B<=k) w w':=⟨h.os,h.tape,h.output,h.size,fun k _ a=>h.block k (by omega)⟩
theorem dV{B:Nat}{w w':World}(h:Below B w.drew w'):Below B w w':=⟨h.os,h.tape,h.output,h.size,h.block⟩
theorem Only.dV{S:Nat->Prop}{w w':World}(h:Only S w.drew w'):Only S w w':=⟨h.os,h.tape,h.output,h.size,h.block⟩
theorem Only.aR(w:World)(b o:Nat)(u:Value):Only (fun k=>k=b) w (w.setCell ⟨b,o,none⟩ u):=
 (Only.refl (fun k=>k=b) w).setCell (p:=⟨b,o,none⟩) (fun _=>rfl) u
def Rd(w:World)(F:Nat->Prop)(v:Value)(xs:List Value):Prop:=
 ∃(A:Option Addr) (n c:Nat),v=.slice A n c/\xs.length=n/\n<=c/\c<=maxLen/\
  (0<n-> ∃b o,A=some ⟨b,o,none⟩/\F b/\ ∀j u,xs[j]?=some u->w.cell? ⟨b,o+j,none⟩=some u)
section
variable{F G S:Nat->Prop}{w w':World}{v:Value}{xs:List Value}
theorem Rd.mono(j:Rd w F v xs)(c: ∀k,F k->G k):Rd w G v xs:=by obtain⟨A,n,i,f,g,h,a,d⟩:=j;exact⟨A,n,i,f,g,h,a,fun a=>let⟨b,o,e,hb,hu⟩:=d a;⟨b,o,e,c b hb,hu⟩⟩
abbrev Rd.m:=@Rd.mono
theorem Rd.only(l:Rd w F v xs)(g:Only S w w')(d: ∀k,F k-> ¬S k):Rd w' F v xs:=by obtain⟨A,n,j,f,h,i,a,c⟩:=l;exact⟨A,n,j,f,h,i,a,fun a=>let⟨b,o,e,hb,hu⟩:=c a;⟨b,o,e,hb,fun j u a=>g.cell (hu j u a) (d b hb)⟩⟩
theorem Rd.below(h:Rd w F v xs)(a:Below w.heap.size w w'):Rd w' F v xs:=h.only (Only.of_below a fun _=>False) (fun _ _=>id)
theorem Rd.drewN(h:Rd w F v xs)(n:Nat):Rd (w.drewN n) F v xs:=h.only ((Only.refl (fun _=>False) w).drewN n) (fun _ _ h=>h)
theorem Rd.nil(w:World)(F:Nat->Prop):Rd w F (.slice none 0 0) []:=⟨none,0,0,rfl,rfl,b8 _,by simp[maxLen],fun h=>absurd h (by omega)⟩
theorem Rd.bO{base:Nat}{e:TypeId}{n:Nat}(h:w.ownsRow base e 1 v n xs)(b: ∀g,v.ownBlock=some g->F g):Rd w F v xs:=by
 rcases h.2 with⟨rfl,rfl⟩|⟨g,f,d,rfl,_,k,a,c,j,i⟩
 ·have:xs=[]:=de (by simpa using h.1);subst this;exact Rd.nil w F
 ·refine⟨_,_,_,rfl,by simpa using h.1,a,c,fun _=>⟨g,0,rfl,b g rfl,fun j u a=>?_⟩⟩;have:=h.cells (g:=g) rfl j u a;unfold Addr.add at this;split at this
  ·subst_vars;simpa using this
  ·simpa using this
theorem qQ{p:Addr}(b: ∀k o,F k->w.heap[k]?=some o->w'.heap[k]?=some o)(c:F p.block)(h:w.cell? p=some v):w'.cell? p=some v:=by have a:=aq w p h;exact(World.cell?_of_block (by rw[b p.block _ c (fl a),fl a])).x h
theorem Rd.agree(j:Rd w F v xs)(a: ∀k o,F k->w.heap[k]?=some o->w'.heap[k]?=some o):Rd w' F v xs:=by obtain⟨A,n,i,f,g,h,c,d⟩:=j;exact⟨A,n,i,f,g,h,c,fun c=>let⟨b,o,e,hb,hu⟩:=d c;⟨b,o,e,hb,fun j u c=>qQ a hb (hu j u c)⟩⟩
theorem Rd.bound(h:Rd w F v xs):Rd w (fun k=>F k/\k<w.heap.size) v xs:=by obtain⟨A,n,g,b,d,f,a,c⟩:=h;refine⟨A,n,g,b,d,f,a,fun b=>?_⟩;obtain⟨f,o,e,d,a⟩:=c b;exact⟨f,o,e,⟨d,aq w _ (a 0 _ (ao (by omega)))⟩,a⟩
theorem Rd.length_le(h:Rd w F v xs):xs.length<=maxLen:=by obtain⟨A,n,f,c,e,d,b,a⟩:=h;omega
theorem Rd.cells(o:Rd w F v xs){A:Option Addr}{n c:Nat}(a:v=.slice A n c): ∀g,A=some g-> ∀j u,xs[j]?=some u->w.cell? (g.add j)=some u:=by
 obtain⟨d,l,k,b,m,i,h,f⟩:=o;rw[b]at a;injection a with b a d;subst b;subst a;subst d;intro g d j u a;have b:j<xs.length:=(aw.1 a).1;obtain⟨g,o,e,_,b⟩:=f (by omega);rw[d]at e;injection e with e;subst e;have:=b j u a;unfold Addr.add;split
 ·subst_vars;simpa using this
 ·simpa using this
end
theorem cD{w:World}{base:Nat}{e t:TypeId}{size n g:Nat}{v:Value}{xs:List Value}{cs:Array Value}{fr:Nat×Nat}(h:w.ownsRow base e size v n xs)(d:w.heap[g]?=some (.cells cs t fr))(b:e≠t):v.ownBlock≠some g:=by
 rcases h.2 with⟨rfl,_⟩|⟨c,h,f,rfl,_,a,_⟩
 ·simp[Value.ownBlock]
 ·intro f;have:c=g:=by simpa[Value.ownBlock]using f
  subst this;rw[d]at a;injection a with a;injection a with _ a;exact b a.symm
theorem Cy{w:World}{base:Nat}{e:TypeId}{size n g:Nat}{v:Value}{xs:List Value}(h:w.ownsRow base e size v n xs)(a:v.ownBlock=some g): ∃c b,w.heap[g]?=some (.cells c e b):=by
 rcases h.2 with⟨rfl,_⟩|⟨c,f,d,rfl,_,b,_⟩
 ·simp[Value.ownBlock]at a
 ·have:c=g:=by simpa[Value.ownBlock]using a
  subst this;exact⟨_,_,b⟩
theorem iZ{w:World}{base base':Nat}{e a:TypeId}{size b n f g:Nat}{v v':Value}{xs c:List Value}(i:w.ownsRow base e size v n xs)(d:w.ownsRow base' a b v' f c)(b:e≠a)(c:v.ownBlock=some g):v'.ownBlock≠some g:=by obtain⟨h,f,a⟩:=Cy i c;exact cD d a (Ne.symm b)
theorem bE{w w':World}{base:Nat}{e:TypeId}{size n:Nat}{v:Value}{xs:List Value}(a:w.ownsRow base e size v n xs)(h:Below w.heap.size w w'):w'.ownsRow base e size v n xs:=by
 refine⟨a.1,?_⟩;rcases a.2 with g|⟨i,f,c,rfl,d,a,b⟩
 ·exact .inl g
 ·exact .inr ⟨i,f,c,rfl,d,by rw[h.block i (Array.getElem?_eq_some_iff.1 a).1];exact a,b⟩
theorem aJ{w w':World}{S:Nat->Prop}{base:Nat}{e:TypeId}{size n:Nat}{v:Value}{xs:List Value}(h:w.ownsRow base e size v n xs)(i:Only S w w')(j: ∀g,v.ownBlock=some g-> ¬S g):w'.ownsRow base e size v n xs:=by
 refine⟨h.1,?_⟩;rcases h.2 with h|⟨g,c,b,rfl,f,d,a⟩
 ·exact .inl h
 ·exact .inr ⟨g,c,b,rfl,f,i.heap d (j g rfl),a⟩
theorem dI{w:World}{base base':Nat}{e:TypeId}{size n:Nat}{v:Value}{xs:List Value}(a:w.ownsRow base e size v n xs)(h: ∀g,v.ownBlock=some g->base'<=g):w.ownsRow base' e size v n xs:=by
 refine⟨a.1,?_⟩;rcases a.2 with f|⟨g,d,b,rfl,i,c,a⟩
 ·exact .inl f
 ·exact .inr ⟨g,d,b,rfl,h g rfl,c,a⟩
theorem VE{W w1:World}(a:Below W.heap.size W w1):(∀b o,b<W.heap.size->w1.cell? ⟨b,o,none⟩=W.cell? ⟨b,o,none⟩)/\(∀b o,b<W.heap.size->w1.frozen? ⟨b,o,none⟩=W.frozen? ⟨b,o,none⟩):=
 ⟨fun b o h=>a.cell (p:=⟨b,o,none⟩) h,fun b o h=>a.frozen (p:=⟨b,o,none⟩) h⟩
theorem wX{P:Program}{f:FuncId}{args:Array Value}{w:World}{n:Nat}{v:Value}
  (h:Calls P f args (w.drewN n) fun e w'=>e=.returned v/\w.drewN n=w'):Calls P f args (w.drewN n) fun e w''=>e=.returned v/\ ∃m,w''=w.drewN m:=
 h.m fun _ _ ⟨a,b⟩=>⟨a,n,b.symm⟩
def B8(x:UInt8):Value:=.int .u8 (x.toNat:Int)
theorem tz(xs:List UInt8): ∀u∈xs.map B8,u.oneCell'=true:=by intro u a;obtain⟨x,_,rfl⟩:=ep.1 a;rfl
section
variable{P:Program}(w:World)
theorem l7(base:Nat)(t d e:TypeId)(i:TypeInfo)(size:Nat)(a:P.underlying t=some (.slice e))(hi:P.info? e=some i)
  (v:Value) (n:Nat) (xs:List Value) (b:w.ownsRow base e size v n xs) (c:Nat):(Builtin.append_ #[t,t] d #[v,.slice none 0 c]).run P w=.ok v w:=by
 rcases b.2 with⟨rfl,rfl⟩|⟨g,f,d,rfl,_,_,b,_⟩
 ·simp[Builtin.append_,run_underlying a,sizeOf,typeInfo,hi,Builtin.lenOf,Builtin.firstCells]
 ·simp[Builtin.append_,run_underlying a,sizeOf,typeInfo,hi,Builtin.lenOf,Builtin.firstCells,b,storeCells]
theorem zF(base:Nat)(t d e:TypeId)(i:TypeInfo)(C:Value)(b:Nat)(h:P.underlying t=some (.slice e))(hi:P.info? e=some i)(A:i.zero=some C)
  (q:i.size=1) (s:i.bytes=b) (z:C.cells.size=1)
  (v:Value) (n:Nat) (xs:List Value) (c:w.ownsRow base e 1 v n xs) (F:Nat->Prop) (x:Value) (news:List Value) (f:Rd w F x news) (B: ∀u∈news,u.oneCell'=true)
  (o:(n+news.length)*b<=140737488355328) (r:n+news.length<=maxLen) (p:base<=w.heap.size):
  ∃a w',(Builtin.append_ #[t,t] d #[v,x]).run P w=.ok a w'/\w'.ownsRow base e 1 a (n+news.length) (xs++news)/\w.grownBy w' v.ownBlock/\
   (a.ownBlock=v.ownBlock\/a.ownBlock=some w.heap.size):=by
 obtain⟨m,y,D,rfl,g,k,l,j⟩:=f;subst g;rcases m with _|g
 ·have l:news.length=0:=by
   rcases Nat.eq_zero_or_pos news.length with f|f
   ·exact f
   ·obtain⟨G,E,k,_⟩:=j f;cases k
  have f:news=[]:=de l;subst f;exact⟨v,w,l7 w base t d e i 1 h hi v n xs c D,by simpa using c,World.grownBy.refl w _,.inl rfl⟩
 ·have m: ∀l u,news[l]?=some u->w.cell? (g.add l)=some u:=by
   intro l u f;have y:l<news.length:=(aw.1 f).1;obtain⟨G,E,k,_,y⟩:=j (by omega);injection k with k;subst k;have:=y l u f;unfold Addr.add;split
   ·subst_vars;simpa using this
   ·simpa using this
  obtain⟨a,w',f,j,k,_,l⟩:=run_append_own_at (P:=P) w base t d e i C 1 b h hi A q s z (by decide) v n xs c g news.length D news (by simp) m B r o p;exact⟨a,w',f,j,k,l⟩
theorem Cz{o:Oper}{a:Act}{K:Act->World->Prop}{Q:Exit->Act->World->Prop}(s x:Operand)(t:TypeId)
  (A:o.op=.call {callee:=.builtin .append,args:= #[s,x],argTypes:= #[t,t]})
  (base:Nat) (e:TypeId) (i:TypeInfo) (G:Value) (c:Nat) (D:P.underlying t=some (.slice e)) (hi:P.info? e=some i) (q:i.zero=some G)
  (h:i.size=1) (l:i.bytes=c) (m:G.cells.size=1)
  (v:Value) (n:Nat) (xs:List Value) (r:a.eval s=v) (j:w.ownsRow base e 1 v n xs) (F:Nat->Prop) (d:Value) (news:List Value) (C:a.eval x=d) (z:Rd w F d news) (E: ∀u∈news,u.oneCell'=true)
  (f:(n+news.length)*c<=140737488355328) (p:n+news.length<=maxLen) (g:base<=w.heap.size)
  (H: ∀b w',w'.ownsRow base e 1 b (n+news.length) (xs++news)->w.grownBy w' v.ownBlock->(b.ownBlock=v.ownBlock\/b.ownBlock=some w.heap.size)->K (a.put o.dst b) w'):o.wp P a w K Q:=by
 obtain⟨b,w',k,u,B,y⟩:=zF (P:=P) w base t o.type e i G c D hi q h l m v n xs j F d news z E f p g;unfold Oper.wp execOp;simp only[A,resolve,invoke,builtin,Sem.run_bind,Sem.run_pure,Result.andThen_ok,List.map_toArray,kt,kb,r,C,k];exact H b w' u B y
theorem ja{ops:Array Oper}{f:List Oper}{o:Oper}{a:Act}{Q:Exit->Act->World->Prop}(l:o.guard=none)(s x:Operand)(t:TypeId)
  (z:o.op=.call {callee:=.builtin .append,args:= #[s,x],argTypes:= #[t,t]})
  (base:Nat) (e:TypeId) (i:TypeInfo) (D:Value) (c:Nat) (B:P.underlying t=some (.slice e)) (hi:P.info? e=some i) (r:i.zero=some D)
  (j:i.size=1) (m:i.bytes=c) (p:D.cells.size=1)
  (v:Value) (n:Nat) (xs:List Value) (u:a.eval s=v) (k:w.ownsRow base e 1 v n xs) (F:Nat->Prop) (d:Value) (news:List Value) (A:a.eval x=d) (y:Rd w F d news) (C: ∀b∈news,b.oneCell'=true)
  (g:(n+news.length)*c<=140737488355328) (q:n+news.length<=maxLen) (h:base<=w.heap.size)
  (E: ∀b w',w'.ownsRow base e 1 b (n+news.length) (xs++news)->w.grownBy w' v.ownBlock->(b.ownBlock=v.ownBlock\/b.ownBlock=some w.heap.size)->wpList P ops Q f (a.put o.dst b) w'):wpList P ops Q (o::f) a w:=
 wpList_plain l fun _ l=>Cz w s x t z base e i D c B hi r j m p v n xs u k F d news A y C g q h fun b w' c f d=>l _ _ (E b w' c f d)
end
theorem aI{w:World}{p:Addr}{v:Value}(h:w.cell? p=some v)(o:Obj):(w.alloc o).cell? p=some v:=
 (World.cell?_alloc_lt w o p (aq w p h)).x h
theorem aL{w:World}{b:Nat}{v:Value}{t:TypeId}(h:w.heap[b]?=some (.cells #[v] t (0,0))):w.cell? ⟨b,0,none⟩=some v:=by simp[World.cell?,h]
theorem bL{w:World}{b:Nat}{v:Value}{t:TypeId}(h:w.heap[b]?=some (.cells #[v] t (0,0))):w.frozen? ⟨b,0,none⟩=false:=by simp[World.frozen?,h]
theorem ai{w:World}{base:Nat}{e:TypeId}{size:Nat}{v:Value}{n:Nat}{xs:List Value}(h:w.ownsRow base e size v n xs): ∃A c,v=.slice A n c:=by
 rcases h.2 with⟨rfl,rfl⟩|⟨g,b,a,rfl,_⟩
 ·exact⟨_,_,rfl⟩
 ·exact⟨_,_,rfl⟩
structure OnlyC (F:Nat->Nat->Prop) (w w':World):Prop where
 os:w'.os=w.os
 tape:w'.tape=w.tape
 output:w'.output=w.output
 size:w.heap.size<=w'.heap.size
 shape: ∀k cs t fr,w.heap[k]?=some (.cells cs t fr)-> ∃cs',w'.heap[k]?=some (.cells cs' t fr)/\cs'.size=cs.size/\ ∀j,¬F k j->cs'[j]?=cs[j]?
 block: ∀k,k<w.heap.size->(∀j,¬F k j)->w'.heap[k]?=w.heap[k]?
section
variable{F G:Nat->Nat->Prop}{w w' w'':World}
theorem OnlyC.refl(F:Nat->Nat->Prop)(w:World):OnlyC F w w:=⟨rfl,rfl,rfl,b8 _,fun _ a _ _ h=>⟨a,h,rfl,fun _ _=>rfl⟩,fun _ _ _=>rfl⟩
theorem lt_of_heap{w:World}{k:Nat}{o:Obj}(h:w.heap[k]?=some o):k<w.heap.size:=(cq.1 h).1
theorem OnlyC.trans(h:OnlyC F w w')(k:OnlyC G w' w'')(e: ∀b o,b<w.heap.size->G b o->F b o):OnlyC F w w'':=by
 refine⟨k.os.x h.os,k.tape.x h.tape,k.output.x h.output,dd h.size k.size,?_,?_⟩
 ·intro b d t c a;obtain⟨f,m,j,l⟩:=h.shape b d t c a;obtain⟨d,i,g,n⟩:=k.shape b f t c m;exact⟨d,i,g.x j,fun j d=>(n j (fun c=>d (e b j (lt_of_heap a) c))).x (l j d)⟩
 ·intro b a d;exact(k.block b (da a h.size) (fun j c=>d j (e b j a c))).x (h.block b a d)
abbrev OnlyC.x:=@OnlyC.trans
theorem OnlyC.mono(h:OnlyC F w w')(d: ∀c o,c<w.heap.size->F c o->G c o):OnlyC G w w':=
 ⟨h.os,h.tape,h.output,h.size,fun c e t b a=>let⟨cs',h1,h2,h3⟩:=h.shape c e t b a;⟨cs',h1,h2,fun j e=>h3 j (fun b=>e (d c j (lt_of_heap a) b))⟩,
  fun c a e=>h.block c a (fun j b=>e j (d c j a b))⟩
abbrev OnlyC.m:=@OnlyC.mono
theorem OnlyC.of_below(h:Below w.heap.size w w')(F:Nat->Nat->Prop):OnlyC F w w':=
 ⟨h.os,h.tape,h.output,h.size,fun c b t d a=>⟨b,by rw[h.block c (lt_of_heap a)];exact a,rfl,fun _ _=>rfl⟩,fun c a _=>h.block c a⟩
theorem OnlyC.drew(h:OnlyC F w w'):OnlyC F w w'.drew:=⟨h.os,h.tape,h.output,h.size,h.shape,h.block⟩
theorem OnlyC.drewN(h:OnlyC F w w')(n:Nat):OnlyC F w (w'.drewN n):=⟨h.os,h.tape,h.output,h.size,h.shape,h.block⟩
theorem OnlyC.dV(h:OnlyC F w.drew w'):OnlyC F w w':=⟨h.os,h.tape,h.output,h.size,h.shape,h.block⟩
theorem OnlyC.below(h:OnlyC F w w')(b: ∀a o,a<w.heap.size-> ¬F a o):Below w.heap.size w w':=⟨h.os,h.tape,h.output,h.size,fun k a=>h.block k a (fun j=>b k j a)⟩
theorem OnlyC.only(h:OnlyC F w w'):Only (fun k=> ∃j,F k j) w w':=⟨h.os,h.tape,h.output,h.size,fun k b a=>h.block k b (fun j b=>a ⟨j,b⟩)⟩
theorem OnlyC.aR(w:World)(b o:Nat)(u:Value):OnlyC (fun k j=>k=b/\j=o) w (w.setCell ⟨b,o,none⟩ u):=by
 refine⟨rfl,rfl,rfl,by simp[World.setCell],?_,?_⟩
 ·intro k c t a d;by_cases a:k=b
  ·subst a;refine⟨c.setIfInBounds o u,?_,by simp,fun j f=>?_⟩
   ·simp[World.setCell,Array.getElem?_modify,d]
   ·rw[gd,fb (fun e=>f ⟨rfl,e.symm⟩)]
  ·exact⟨c,by rw[Below.heap_setCell _ _ _ _ a];exact d,rfl,fun _ _=>rfl⟩
 ·intro k _ c;by_cases a:k=b
  ·subst a;exact absurd ⟨rfl,rfl⟩ (c o)
  ·exact Below.heap_setCell _ _ _ _ a
theorem OnlyC.setCell(h:OnlyC F w w'){b o:Nat}(a:b<w.heap.size->F b o)(u:Value):OnlyC F w (w'.setCell ⟨b,o,none⟩ u):=
 h.x (OnlyC.aR w' b o u) (fun k j e ⟨c,d⟩=>by subst c;subst d;exact a e)
theorem OnlyC.alloc(h:OnlyC F w w')(o:Obj):OnlyC F w (w'.alloc o):=
 h.x (OnlyC.of_below ((bd _ _).alloc (b8 _) o) (fun _ _=>False)) (fun _ _ _ h=>h.elim)
theorem OnlyC.heap(h:OnlyC F w w'){k:Nat}{o:Obj}(a:w.heap[k]?=some o)(b: ∀j,¬F k j):w'.heap[k]?=some o:=(h.block k (lt_of_heap a) b).x a
theorem OnlyC.cell(k:OnlyC F w w'){b o:Nat}{v:Value}(a:w.cell? ⟨b,o,none⟩=some v)(e: ¬F b o):w'.cell? ⟨b,o,none⟩=some v:=by
 unfold World.cell? at a;split at a
 ·rename_i g t d f;obtain⟨i,h,j,c⟩:=k.shape b g t d f;simp only[World.cell?,h];rw[c o e];exact a
 ·cases a
end
def aG(k:Nat)(t:TypeId)(w:World)(v:Value)(xs:List (List Value))(F:Nat->Nat->Prop):Prop:=
 ∃(A:Option Addr) (c:Nat),v=.slice A xs.length c/\xs.length<=c/\c<=maxLen/\(∀x∈xs,x.length=k)/\
  ((c=0/\(A=none\/ ∃b o,A=some ⟨b,o,none⟩))\/ ∃b o a,A=some ⟨b,o,none⟩/\w.heap[b]?=some (.cells a t (0,0))/\o+c*k<=a.size/\(∀j,o<=j->j<o+c*k->F b j)/\ ∀j u,xs.flatten[j]?=some u->a[o+j]?=some u)
section
variable{k:Nat}{t:TypeId}{F G:Nat->Nat->Prop}{w w':World}{v:Value}{xs:List (List Value)}
theorem bP{k:Nat}{xs:List (List Value)}(a: ∀x∈xs,x.length=k):xs.flatten.length=xs.length*k:=by
 induction xs with
 |nil=>simp
 |cons y c b=>rw[List.flatten_cons,gr,b (fun z b=>a z (by simp[b])),a y (by simp),gn,lr];omega
theorem aG.nil(k:Nat)(t:TypeId)(w:World)(F:Nat->Nat->Prop):aG k t w (.slice none 0 0) [] F:=⟨none,0,rfl,b8 _,by simp[maxLen],fun x a=>by simp at a,.inl ⟨rfl,.inl rfl⟩⟩
theorem aG.mono(p:aG k t w v xs F)(g: ∀f o,F f o->G f o):aG k t w v xs G:=by
 obtain⟨A,n,d,b,e,c,a|⟨f,o,m,a,j,l,h,i⟩⟩:=p
 ·exact⟨A,n,d,b,e,c,.inl a⟩
 ·exact⟨A,n,d,b,e,c,.inr ⟨f,o,m,a,j,l,fun j a f=>g _ _ (h j a f),i⟩⟩
abbrev aG.m:=@aG.mono
theorem aG.only(h:aG k t w v xs F)(j:OnlyC G w w')(n: ∀g o,F g o-> ¬G g o):aG k t w' v xs F:=by
 obtain⟨A,u,e,b,f,c,a|⟨g,o,s,a,p,r,d,l⟩⟩:=h
 ·exact⟨A,u,e,b,f,c,.inl a⟩
 ·obtain⟨h,m,i,q⟩:=j.shape g s t _ p;refine⟨A,u,e,b,f,c,.inr ⟨g,o,h,a,m,by rw[i];exact r,d,fun j f a=>?_⟩⟩;have e:=(aw.1 a).1;rw[bP c]at e;have:xs.length*k<=u*k:=ea k b;rw[q (o+j) (n _ _ (d (o+j) (by omega) (by omega)))];exact l j f a
theorem aG.dC{S:Nat->Prop}(g:aG k t w v xs F)(r:0<k)(j:Only S w w')(m: ∀h o,F h o-> ¬S h):aG k t w' v xs F:=by
 obtain⟨A,i,d,b,e,c,a|⟨h,o,q,a,n,p,f,l⟩⟩:=g
 ·exact⟨A,i,d,b,e,c,.inl a⟩
 ·by_cases g:i=0
  ·exact⟨A,i,d,b,e,c,.inl ⟨g,.inr ⟨h,o,a⟩⟩⟩
  ·have s:0<i*k:=Nat.mul_pos (Nat.pos_of_ne_zero g) r;exact⟨A,i,d,b,e,c,.inr ⟨h,o,q,a,j.heap n (m h o (f o (b8 _) (by omega))),p,f,l⟩⟩
theorem aG.bound(n:aG k t w v xs F):aG k t w v xs (fun l o=>F l o/\l<w.heap.size):=by
 obtain⟨A,m,d,b,e,c,a|⟨l,o,j,a,f,i,g,h⟩⟩:=n
 ·exact⟨A,m,d,b,e,c,.inl a⟩
 ·exact⟨A,m,d,b,e,c,.inr ⟨l,o,j,a,f,i,fun j b a=>⟨g j b a,lt_of_heap f⟩,h⟩⟩
theorem aG.bO{base n:Nat}(h:w.ownsRow base t k v n xs.flatten)(a: ∀x∈xs,x.length=k)(c:0<k)(e: ∀g j,v.ownBlock=some g->F g j):aG k t w v xs F:=by
 have d:xs.length=n:=by have b:=h.1;rw[bP a]at b;exact Nat.eq_of_mul_eq_mul_right c b
 subst d;rcases h.2 with⟨rfl,f⟩|⟨g,l,b,rfl,_,h,c,i,m,d⟩
 ·have:xs=[]:=de f;subst this;exact aG.nil _ _ _ _
 ·refine⟨_,_,rfl,c,i,a,.inr ⟨g,0,b,rfl,h,by omega,fun j _ _=>e g j rfl,fun j u a=>?_⟩⟩;have b:j<xs.flatten.length:=(aw.1 a).1;rw[<-d]at a;rw[lP]at a;split at a
  ·rw[ie];simpa using a
  ·cases a
end
theorem cy{b:Nat}{t:TypeId}: ∀(f:List Value) (o:Nat) (w:World) (a:Array Value),w.heap[b]?=some (.cells a t (0,0))->o+f.length<=a.size->
  ∃d,(w.setCells b o f).heap[b]?=some (.cells d t (0,0))/\d.size=a.size/\(∀j,¬(o<=j/\j<o+f.length)->d[j]?=a[j]?)/\ ∀j u,f[j]?=some u->d[o+j]?=some u
 |[],o,w,a,h,_=>⟨a,h,rfl,fun _ _=>rfl,fun j u c=>by simp at c⟩
 |v::f,o,w,a,h,hl=>by
  have l:=dp w b o a t v h;obtain⟨d,k,i,g,m⟩:=cy f (o+1) (w.setCell ⟨b,o,none⟩ v) (a.setIfInBounds o v) l (by simp at hl⊢;omega);refine⟨d,k,by simpa using i,fun j c=>?_,fun j u c=>?_⟩
  ·rw[g j (by simp at c⊢;omega),gd,fb (by simp at c;omega)]
  ·cases j with
   |zero=>
    have e:v=u:=by simpa using c
    subst e;rw[mS,g o (by omega),gd,ff rfl,ff (by simp at hl;omega)]
   |succ j=>have:=m j u (by simpa using c);rw[show o+(j+1)=o+1+j by omega];exact this
theorem bU(b:Nat): ∀(a:List Value) (o:Nat) (w:World),OnlyC (fun k j=>k=b/\o<=j/\j<o+a.length) w (w.setCells b o a)
 |[],o,w=>OnlyC.refl _ w
 |v::a,o,w=>by have e:=OnlyC.aR w b o v;have d:=bU b a (o+1) (w.setCell ⟨b,o,none⟩ v);have c:OnlyC (fun k j=>k=b/\o<=j/\j<o+(v::a).length) w (w.setCell ⟨b,o,none⟩ v):=e.m (fun k j _ ⟨a,e⟩=>⟨a,by omega,by simp;omega⟩);exact c.x d (fun k j _ ⟨a,e,c⟩=>⟨a,by omega,by simp;omega⟩)
section
variable{k:Nat}{t:TypeId}{F G:Nat->Nat->Prop}{w w':World}{v:Value}{xs:List (List Value)}
theorem xe(d: ∀x∈xs,x.length=k): ∀(i:Nat) (x:List Value),xs[i]?=some x-> ∀(j:Nat) (u:Value),x[j]?=some u->xs.flatten[i*k+j]?=some u:=by
 induction xs with
 |nil=>intro i x a;simp at a
 |cons y b e=>
  intro i x a j u b;have c:=d y (by simp)
  cases i with
  |zero=>simp at a;subst a;rw[List.flatten_cons,lk (by have:=(List.getElem?_eq_some_iff.1 b).1;omega)];simpa using b
  |succ i=>have f:=e (fun z e=>d z (by simp[e])) i x (by simpa using a) j u b;rw[List.flatten_cons,iv (by rw[c,lr];omega)];rw[<-f];congr 1;rw[c,lr];omega
theorem aG.lies(n:aG k t w v xs F)(a:0<xs.length): ∃d o c a,v=.slice (some ⟨d,o,none⟩) xs.length c/\xs.length<=c/\c<=maxLen/\(∀x∈xs,x.length=k)/\w.heap[d]?=some (.cells a t (0,0))/\o+c*k<=a.size/\(∀j,o<=j->j<o+c*k->F d j)/\ ∀j u,xs.flatten[j]?=some u->a[o+j]?=some u:=by
 obtain⟨A,c,h,e,i,g,⟨b,_⟩|⟨d,o,a,b,l,m,f,j⟩⟩:=n
 ·omega
 ·subst b;exact⟨d,o,c,a,h,e,i,g,l,m,f,j⟩
theorem cell_of_heap{w:World}{b j:Nat}{cs:Array Value}{t:TypeId}{u:Value}(h:w.heap[b]?=some (.cells cs t (0,0)))(a:cs[j]?=some u):w.cell? ⟨b,j,none⟩=some u:=by simp[World.cell?,h,a]
theorem frozen_of_heap{w:World}{b:Nat}{cs:Array Value}{t:TypeId}(h:w.heap[b]?=some (.cells cs t (0,0)))(j:Nat):w.frozen? ⟨b,j,none⟩=false:=by simp[World.frozen?,h]
theorem aG.rewritten{b o n c:Nat}{cs a:Array Value}{ys:List (List Value)}(h:w'.heap[b]?=some (.cells a t (0,0)))(d:a.size=cs.size)(d:o+c*k<=cs.size)(i: ∀j,o<=j->j<o+c*k->F b j)
  (f:ys.length=n) (d:n<=c) (e:c<=maxLen) (g: ∀x∈ys,x.length=k) (l: ∀j u,ys.flatten[j]?=some u->a[o+j]?=some u):aG k t w' (.slice (some ⟨b,o,none⟩) n c) ys F:=by
 subst f;exact⟨_,c,rfl,d,e,g,.inr ⟨b,o,a,rfl,h,by omega,i,l⟩⟩
end
section
variable{P:Program}{k:Nat}{e:TypeId}{F G:Nat->Nat->Prop}
theorem dH(w:World){ops:Array Oper}{rest:List Oper}{o:Oper}{a:Act}{Q:Exit->Act->World->Prop}
  (hg:o.guard=none) (s x:Operand) (t:TypeId) (hop:o.op=Op.call {callee:=Callee.builtin Builtin.append,args:= #[s,x],argTypes:= #[t,t]})
  (i:TypeInfo) (z:Value) (bytes:Nat) (h1:P.underlying t=some (.slice e)) (h2:P.info? e=some i) (h3:i.zero=some z) (h4:i.size=k) (h5:i.bytes=bytes) (h6:z.cells.size=k) (h7:0<k)
  (v:Value) (xs:List (List Value)) (hs:a.eval s=v) (hv:aG k e w v xs F)
  (ad:Addr) (m c:Nat) (ys:List (List Value)) (hx:a.eval x=.slice (some ad) m c) (hm:ys.length=m) (hyk: ∀y∈ys,y.length=k) (hc: ∀j u,ys.flatten[j]?=some u->w.cell? (ad.add j)=some u) (h1c: ∀u∈ys.flatten,u.oneCell'=true)
  (b1:xs.length+m<=maxLen) (b2:(xs.length+m)*bytes<=140737488355328)
  (h: ∀v' w',aG k e w' v' (xs++ys) (fun b o=>F b o\/w.heap.size<=b)->OnlyC F w w'->wpList P ops Q rest (a.put o.dst v') w'):
  wpList P ops Q (o::rest) a w:=by
 have hv0:=hv;obtain⟨A,cp,rfl,q2,q3,q4,q5⟩:=hv;have DT:ys.flatten.length=m*k:=by rw[bP hyk,hm]
 have hxl:xs.flatten.length=xs.length*k:=bP q4;have hall: ∀y∈xs++ys,y.length=k:=fun y hy=>(dr.1 hy).elim (q4 y) (hyk y)
 have grown: ∀v' w',w'.ownsRow w.heap.size e k v' (xs.length+m) (xs.flatten++ys.flatten)->w.grownBy w' none->wpList P ops Q rest (a.put o.dst v') w':=by intro v' w' r1 r2;refine h v' w' (aG.bO (n:=xs.length+m) (base:=w.heap.size) (by rw[la];exact r1) hall h7 (fun g j hg=>.inr (r1.lt g hg).1)) (OnlyC.of_below ⟨r2.os,r2.tape,r2.output,r2.size,fun q hq=>r2.block q hq (by simp)⟩ F)
 by_cases hr:xs.length+m<=cp
 ·by_cases Oq:cp=0
  · --nothing at all
   subst Oq;have hx0:xs=[]:=de (by omega);have hy0:ys=[]:=de (by omega);subst hx0 hy0;subst hm;refine wpList_plain hg fun K hK=>?_
   have hrun:(Builtin.append_ #[t,t] o.type #[.slice A ([]:List (List Value)).length 0,.slice (some ad) ([]:List (List Value)).length c]).run P w=.ok (.slice A 0 0) w:=by
    have hfc:=run_firstCells_some (P:=P) w i.size 0 ad 0 c [] (by simp) (fun j u hj=>by simp at hj)
    cases A with
    |none=>simp[Builtin.append_,run_underlying h1,sizeOf,typeInfo,h2,Builtin.lenOf,hfc]
    |some A0=>simp[Builtin.append_,run_underlying h1,sizeOf,typeInfo,h2,Builtin.lenOf,hfc,storeCells]
   unfold Oper.wp;simp only[execOp,hop,resolve,invoke,builtin,Sem.run_bind,Sem.run_pure,Result.andThen_ok,List.map_toArray,kt,kb,hs,hx,hrun];exact hK _ _ (h _ w (hv0.m (fun _ _ h=>.inl h)) (OnlyC.refl F w))
  ·obtain⟨h0,_⟩|⟨b,off,cs,rfl,q6,q7,q8,q9⟩:=q5
   ·exact absurd h0 Oq
   ·have hmul:(xs.length+m)*k<=cp*k:=ea k hr;rw[Nat.add_mul]at hmul;have hfit:off+xs.length*k+ys.flatten.length<=cs.size:=by rw[DT];omega
    subst h4;refine wpList_plain hg fun K hK=>?_
    have hrun:=run_append_room_cells (P:=P) w t o.type e i h1 h2 b off xs.length cp ad m c ys.flatten DT hc h1c hr
     (fun j hj=>by
      have hlt:off+xs.length*i.size+j<cs.size:=by omega
      simp[World.cell?,q6,fl hlt]) (fun j _=>frozen_of_heap q6 _)
    unfold Oper.wp;simp only[execOp,hop,resolve,invoke,builtin,Sem.run_bind,Sem.run_pure,Result.andThen_ok,List.map_toArray,kt,kb,hs,hx,hrun];obtain⟨cs',k1,k2,k3,k4⟩:=cy ys.flatten (off+xs.length*i.size) w cs q6 hfit;refine hK _ _ (h _ _ (aG.rewritten (ys:=xs++ys) k1 k2 q7 (fun j a b=>.inl (q8 j a b)) (by simp[hm]) hr q3 hall (fun j u hj=>?_)) ((bU b ys.flatten (off+xs.length*i.size) w).m (fun b' j _ ⟨e1,e2,e3⟩=>?_)))
    ·rw[la]at hj;by_cases hjl:j<xs.flatten.length
     ·rw[lk hjl]at hj;rw[k3 _ (by omega)];exact q9 j u hj
     ·rw[iv (by omega)]at hj;have:=k4 _ u hj;rw[hxl]at this;rw[show off+j=off+xs.length*i.size+(j-xs.length*i.size) by omega];exact this
    ·subst e1;exact q8 j (by omega) (by omega)
 ·rcases q5 with⟨rfl,_⟩|⟨b,off,cs,rfl,q6,q7,q8,q9⟩
  ·have hx0:xs=[]:=de (by omega);subst hx0
   cases A with
   |some A0=>exact wpList_append_grows w hg s x t hop e i z k bytes h1 h2 h3 h4 h5 h6 h7 (some A0) 0 0 [] hs (fun hh=>by cases hh) (by simp) (fun b' hb' j u hj=>by simp at hj) ad m c ys.flatten hx DT hc h1c (by omega) b1 b2 (fun v' w' r1 r2=>grown v' w' r1 r2)
   |none=>exact wpList_append_grows w hg s x t hop e i z k bytes h1 h2 h3 h4 h5 h6 h7 none 0 0 [] hs (fun _=>⟨rfl,rfl⟩) (by simp) (fun b hb=>by cases hb) ad m c ys.flatten hx DT hc h1c (by omega) b1 b2 (fun v' w' r1 r2=>grown v' w' r1 r2)
  ·refine wpList_append_grows w hg s x t hop e i z k bytes h1 h2 h3 h4 h5 h6 h7 (some ⟨b,off,none⟩) xs.length cp xs.flatten hs (fun hh=>by cases hh) hxl (fun b' hb' j u hj=>?_) ad m c ys.flatten hx DT hc h1c (by omega) b1 b2 (fun v' w' r1 r2=>grown v' w' r1 r2);injection hb' with hb';subst hb';rw[ir];exact cell_of_heap q6 (q9 j u hj)
end
section
variable{P:Program}{k:Nat}{e:TypeId}{F:Nat->Nat->Prop}
theorem qq(w:World)(t ty:TypeId)(i:TypeInfo)(z:Value)(bytes:Nat)(h1:P.underlying t=some (.slice e))(h2:P.info? e=some i)(h3:i.zero=some z)(h4:i.size=k)(h5:i.bytes=bytes)(h6:z.cells.size=k)(h7:0<k)
  (v:Value) (xs:List (List Value)) (hv:aG k e w v xs F) (ad:Addr) (m c:Nat) (ys:List (List Value)) (hm:ys.length=m) (hyk: ∀y∈ys,y.length=k) (hc: ∀j u,ys.flatten[j]?=some u->w.cell? (ad.add j)=some u) (h1c: ∀u∈ys.flatten,u.oneCell'=true)
  (b1:xs.length+m<=maxLen) (b2:(xs.length+m)*bytes<=140737488355328):
  ∃v' w',(Builtin.append_ #[t,t] ty #[v,.slice (some ad) m c]).run P w=.ok v' w'/\aG k e w' v' (xs++ys) (fun b o=>F b o\/w.heap.size<=b)/\OnlyC F w w':=by
 have hv0:=hv;obtain⟨A,cp,rfl,q2,q3,q4,q5⟩:=hv;have DT:ys.flatten.length=m*k:=by rw[bP hyk,hm]
 have hxl:xs.flatten.length=xs.length*k:=bP q4;have hall: ∀y∈xs++ys,y.length=k:=fun y hy=>(dr.1 hy).elim (q4 y) (hyk y)
 have grown: ∀v' w',w'.ownsRow w.heap.size e k v' (xs.length+m) (xs.flatten++ys.flatten)->w.grownBy w' none->aG k e w' v' (xs++ys) (fun b o=>F b o\/w.heap.size<=b)/\OnlyC F w w':=fun v' w' r1 r2=>
  ⟨aG.bO (n:=xs.length+m) (base:=w.heap.size) (by rw[la];exact r1) hall h7 (fun g j hg=>.inr (r1.lt g hg).1),OnlyC.of_below ⟨r2.os,r2.tape,r2.output,r2.size,fun q hq=>r2.block q hq (by simp)⟩ F⟩
 by_cases hr:xs.length+m<=cp
 ·by_cases Oq:cp=0
  ·subst Oq;have hx0:xs=[]:=de (by omega);have hy0:ys=[]:=de (by omega);subst hx0 hy0;subst hm
   have hrun:(Builtin.append_ #[t,t] ty #[.slice A ([]:List (List Value)).length 0,.slice (some ad) ([]:List (List Value)).length c]).run P w=.ok (.slice A 0 0) w:=by
    have hfc:=run_firstCells_some (P:=P) w i.size 0 ad 0 c [] (by simp) (fun j u hj=>by simp at hj)
    cases A with
    |none=>simp[Builtin.append_,run_underlying h1,sizeOf,typeInfo,h2,Builtin.lenOf,hfc]
    |some A0=>simp[Builtin.append_,run_underlying h1,sizeOf,typeInfo,h2,Builtin.lenOf,hfc,storeCells]
   exact⟨_,w,hrun,hv0.m (fun _ _ h=>.inl h),OnlyC.refl F w⟩
  ·obtain⟨h0,_⟩|⟨b,off,cs,rfl,q6,q7,q8,q9⟩:=q5
   ·exact absurd h0 Oq
   ·have hmul:(xs.length+m)*k<=cp*k:=ea k hr;rw[Nat.add_mul]at hmul;have hfit:off+xs.length*k+ys.flatten.length<=cs.size:=by rw[DT];omega
    subst h4
    have hrun:=run_append_room_cells (P:=P) w t ty e i h1 h2 b off xs.length cp ad m c ys.flatten DT hc h1c hr
     (fun j hj=>by
      have hlt:off+xs.length*i.size+j<cs.size:=by omega
      simp[World.cell?,q6,fl hlt]) (fun j _=>frozen_of_heap q6 _)
    obtain⟨cs',k1,k2,k3,k4⟩:=cy ys.flatten (off+xs.length*i.size) w cs q6 hfit;refine⟨_,_,hrun,aG.rewritten (ys:=xs++ys) k1 k2 q7 (fun j a b=>.inl (q8 j a b)) (by simp[hm]) hr q3 hall (fun j u hj=>?_),(bU b ys.flatten (off+xs.length*i.size) w).m (fun b' j _ ⟨e1,e2,e3⟩=>?_)⟩
    ·rw[la]at hj;by_cases hjl:j<xs.flatten.length
     ·rw[lk hjl]at hj;rw[k3 _ (by omega)];exact q9 j u hj
     ·rw[iv (by omega)]at hj;have:=k4 _ u hj;rw[hxl]at this;rw[show off+j=off+xs.length*i.size+(j-xs.length*i.size) by omega];exact this
    ·subst e1;exact q8 j (by omega) (by omega)
 ·rcases q5 with⟨rfl,q6⟩|⟨b,off,cs,rfl,q6,q7,q8,q9⟩
  ·have hx0:xs=[]:=de (by omega);subst hx0
   cases A with
   |none=>obtain⟨v',w',hrun,r1,r2,_⟩:=run_append_own (P:=P) w w.heap.size t ty e i z k bytes h1 h2 h3 h4 h5 h6 h7 (.slice none 0 0) 0 [] (dy w _ e k) ad m c ys.flatten DT hc h1c b1 b2 (b8 _);exact⟨v',w',hrun,grown v' w' r1 r2⟩
   |some A0=>obtain⟨v',w',hrun,r1,r2⟩:=run_append_arg_grows (P:=P) w t ty e i z k bytes h1 h2 h3 h4 h5 h6 h7 A0 0 0 [] (by simp) (fun j u hj=>by simp at hj) ad m c ys.flatten DT hc (by have:=hr;simp only[lp]at this;omega) b1 b2;exact⟨v',w',hrun,grown v' w' r1 r2⟩
  ·obtain⟨v',w',hrun,r1,r2⟩:=run_append_arg_grows (P:=P) w t ty e i z k bytes h1 h2 h3 h4 h5 h6 h7 ⟨b,off,none⟩ xs.length cp xs.flatten hxl (fun j u hj=>by rw[ir];exact cell_of_heap q6 (q9 j u hj)) ad m c ys.flatten DT hc (by omega) b1 b2;exact⟨v',w',hrun,grown v' w' r1 r2⟩
theorem xg{G:Nat->Nat->Prop}(w:World)(t ty:TypeId)(i:TypeInfo)(z:Value)(bytes:Nat)(h1:P.underlying t=some (.slice e))(h2:P.info? e=some i)(h3:i.zero=some z)(h4:i.size=k)(h5:i.bytes=bytes)(h6:z.cells.size=k)(h7:0<k)
  (v:Value) (xs:List (List Value)) (hv:aG k e w v xs F) (vx:Value) (ys:List (List Value)) (hx:aG k e w vx ys G) (h1c: ∀u∈ys.flatten,u.oneCell'=true) (b1:xs.length+ys.length<=maxLen) (b2:(xs.length+ys.length)*bytes<=140737488355328):
  ∃v' w',(Builtin.append_ #[t,t] ty #[v,vx]).run P w=.ok v' w'/\aG k e w' v' (xs++ys) (fun b o=>F b o\/w.heap.size<=b)/\OnlyC F w w':=by
 obtain⟨A2,c2,rfl,p2,p3,p4,p5⟩:=hx
 cases A2 with
 |none=>
  have hc0:c2=0:=by
   rcases p5 with⟨h,_⟩|⟨b,o,cs,h,_⟩
   ·exact h
   ·cases h
  have hy0:ys=[]:=de (by omega);subst hy0;obtain⟨A,cp,rfl,q2,q3,q4,q5⟩:=id hv;refine⟨_,w,?_,by simpa using hv.m (fun _ _ h=>.inl h),OnlyC.refl F w⟩
  cases A with
  |none=>
   have hcp:cp=0:=by
    rcases q5 with⟨h,_⟩|⟨b,o,cs,h,_⟩
    ·exact h
    ·cases h
   have hx0:xs=[]:=de (by omega);subst hx0 hcp;simp[Builtin.append_,run_underlying h1,sizeOf,typeInfo,h2,Builtin.lenOf,Builtin.firstCells]
  |some A0=>simp[Builtin.append_,run_underlying h1,sizeOf,typeInfo,h2,Builtin.lenOf,Builtin.firstCells,q2,storeCells]
 |some ad=>
  refine qq w t ty i z bytes h1 h2 h3 h4 h5 h6 h7 v xs hv ad ys.length c2 ys rfl p4 (fun j u hj=>?_) h1c b1 b2;rcases p5 with⟨h,_⟩|⟨b,o,cs,h,g6,g7,g8,g9⟩
  ·have hy0:ys=[]:=de (by omega);subst hy0;simp at hj
  ·injection h with h;subst h;rw[ir];exact cell_of_heap g6 (g9 j u hj)
theorem gN{G:Nat->Nat->Prop}{ops:Array Oper}{o:Oper}{a:Act}{K:Act->World->Prop}{Q:Exit->Act->World->Prop}{D:Prop}(w:World)(f:o.guard=none)(s x:Operand)(t:TypeId)
  (u:o.op=.call {callee:=.builtin .append,args:= #[s,x],argTypes:= #[t,t]})
  (i:TypeInfo) (H:Value) (c:Nat) (E:P.underlying t=some (.slice e)) (p:P.info? e=some i) (y:i.zero=some H) (q:i.size=k) (n:i.bytes=c) (B:H.cells.size=k) (C:0<k)
  (v:Value) (xs:List (List Value)) (l:a.eval s=v) (m:aG k e w v xs F) (d:Value) (ys:List (List Value)) (A:a.eval x=d) (g:aG k e w d ys G) (h: ∀b∈ys.flatten,b.oneCell'=true)
  (j:xs.length+ys.length<=maxLen) (z:(xs.length+ys.length)*c<=140737488355328)
  (I: ∀b w',aG k e w' b (xs++ys) (fun r o=>F r o\/w.heap.size<=r)->OnlyC F w w'->K (a.put o.dst b) w'):
  if Region.wanted o (yielded ops a.tmps)=true then Oper.wp P o a w K Q else D:=by
 have r:Region.wanted o (yielded ops a.tmps)=true:=by simp[Region.wanted,f]
 rw[ff r];obtain⟨b,w',f,D,r⟩:=xg w t o.type i H c E p y q n B C v xs m d ys g h j z;unfold Oper.wp execOp;simp only[u,resolve,invoke,builtin,Sem.run_bind,Sem.run_pure,Result.andThen_ok,List.map_toArray,kt,kb,l,A,f];exact I b w' D r
theorem cV{ops:Array Oper}{o:Oper}{a:Act}{q:Act->World->Prop}{Q:Exit->Act->World->Prop}{L:Prop}(w:World)(g:o.guard=none)(s x:Operand)(t:TypeId)
  (r:o.op=.call {callee:=.builtin .append,args:= #[s,x],argTypes:= #[t,t]})
  (i:TypeInfo) (K:Value) (d:Nat) (J:P.underlying t=some (.slice e)) (p:P.info? e=some i) (u:i.zero=some K) (E:i.size=k) (D:i.bytes=d) (H:K.cells.size=k) (I:0<k)
  (v:Value) (xs:List (List Value)) (l:a.eval s=v) (n:aG k e w v xs F) (f:Addr) (m c:Nat) (ys:List (List Value)) (G:a.eval x=.slice (some f) m c) (C:ys.length=m) (h: ∀y∈ys,y.length=k) (A: ∀j b,ys.flatten[j]?=some b->w.cell? (f.add j)=some b) (j: ∀b∈ys.flatten,b.oneCell'=true)
  (B:xs.length+m<=maxLen) (y:(xs.length+m)*d<=140737488355328)
  (M: ∀b w',aG k e w' b (xs++ys) (fun z o=>F z o\/w.heap.size<=z)->OnlyC F w w'->q (a.put o.dst b) w'):
  if Region.wanted o (yielded ops a.tmps)=true then Oper.wp P o a w q Q else L:=by
 have q:Region.wanted o (yielded ops a.tmps)=true:=by simp[Region.wanted,g]
 rw[ff q];obtain⟨b,w',g,z,q⟩:=qq w t o.type i K d J p u E D H I v xs n f m c ys C h A j B y;unfold Oper.wp execOp;simp only[r,resolve,invoke,builtin,Sem.run_bind,Sem.run_pure,Result.andThen_ok,List.map_toArray,kt,kb,l,G,g];exact M b w' z q
end
theorem below_drewN{B:Nat}{w w':World}(h:Below B w w')(n:Nat):Below B w (w'.drewN n):=⟨h.os,h.tape,h.output,h.size,h.block⟩
def fJ(p:Prop)(w:World)(e:Ending)(w':World):Prop:= ∃b:Bool,(b=true↔p)/\e=.returned (.bool b)/\Below w.heap.size w w'
theorem fJ.yes{p:Prop}{w w':World}(h:p)(a:Below w.heap.size w w'):fJ p w (.returned (.bool true)) w':=⟨true,by simp[h],rfl,a⟩
theorem fJ.no{p:Prop}{w w':World}(h: ¬p)(a:Below w.heap.size w w'):fJ p w (.returned (.bool false)) w':=⟨false,by simp[h],rfl,a⟩
abbrev oB:=@Only.of_below
abbrev oE:=@Only.refl
abbrev oS:=@OnlyC.of_below
abbrev oT:=@lt_of_heap
abbrev pb:=@cell_of_heap
theorem qt{w w':World}{k:Nat}{o:Obj}(h:Below w.heap.size w w')(c:w.heap[k]? =some o):w'.heap[k]? =some o:=(Only.of_below h (fun _=>False)).heap c (fun h=>h)
theorem qS{w w':World}(h:Below w.heap.size w w'):Only (fun _=>False) w w':=Only.of_below h _
theorem rj(w:World)(o:Obj):Below w.heap.size w (w.alloc o)/\(w.alloc o).heap[w.heap.size]? =some o:=⟨(Below.refl _ _).alloc (Nat.le_refl _) _,heap_alloc_new w o⟩
theorem rk{α:Type}(a:α): ∃b,a=b:=⟨a,rfl⟩
theorem rl{α:Type}(a:α): ∃b,b=a:=⟨a,rfl⟩
theorem ri{w w':World}(h:Below w.heap.size w w'):OnlyC (fun _ _=>False) w w':=OnlyC.of_below h _
end Go.Proofs.YtehccbdajiiaaaaGreatDoor
