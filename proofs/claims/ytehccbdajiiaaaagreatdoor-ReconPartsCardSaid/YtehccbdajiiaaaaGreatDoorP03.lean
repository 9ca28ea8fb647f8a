import Derived.WalkKit
import Derived.WalkSpells
import Derived.WalkLawsBesides
import Derived.Lib.Hide
import Derived.Maps.AppendAt
import Derived.Deep.AppendLies
import Derived.Deep.QuietTactic
import Derived.BigQuiet
import Derived.ArgAppend
import Derived.Laws.IdiomCopy
abbrev Go.RowKit.Below.x:=@Go.RowKit.Below.trans
abbrev Go.RowKit.Below.m:=@Go.RowKit.Below.mono
abbrev Eq.x:=@Eq.trans
abbrev Iff.x:=@Iff.trans
abbrev Go.Calls.m:=@Go.Calls.mono
abbrev Go.CallsIn.m:=@Go.CallsIn.mono
abbrev Go.RoundIn.m:=@Go.RoundIn.mono
theorem Go.RowKit.Hid.o{p:Prop}(h:Go.RowKit.Hid p):p:=h
theorem And.d{a b c:Prop}(h:a/\b/\c):c:=h.2.2
theorem And.t{a b c d:Prop}(h:a/\b/\c/\d):d:=h.2.2.2
theorem And.q{a b c d e:Prop}(h:a/\b/\c/\d/\e):e:=h.2.2.2.2
namespace Go.Proofs.YtehccbdajiiaaaaGreatDoor
abbrev rv(a:Int):Value:=.int .i64 a
abbrev r7(a:Nat):Value:=.pointer (some ⟨a,0,none⟩)
abbrev sd(a:List UInt8):Value:=.string ⟨a.toArray⟩
abbrev sg(a:Int)(b:Int)(c:Int)(d:Int):Obj:=.cells #[.int .i64 a,.int .i64 b,.int .i64 c,.int .i64 d] 109
abbrev sh(a:Int)(b:Int)(c:Int)(d:Int)(e:Int):Obj:=.cells #[.int .i64 a,.int .i64 b,.int .i64 c,.int .i64 d,.int .i64 e] 64
abbrev sl(a:Bool)(b:Int)(c:Array UInt8)(d:Int)(e:Int):Obj:=.cells #[.bool a,.int .i64 b,.string ⟨c⟩,.int .i64 d,.int .i64 e] 68
abbrev sn(a:Int)(b:Int):Obj:=.cells #[.int .i64 a,.int .i64 b] 80
abbrev so(a:Array UInt8)(b:Array UInt8):Obj:=.cells #[.string ⟨a⟩,.string ⟨b⟩] 220
abbrev sq(a:Int):Obj:=.cells #[.int .i64 a,.slice none 0 0,.slice none 0 0,.slice none 0 0] 96
abbrev sr(a:Int)(b:Array UInt8):Obj:=.cells #[.int .i64 a,.string ⟨b⟩] 273
abbrev sv(a:Int)(b:Int)(c:Int):Obj:=.cells #[.int .i64 a,.int .i64 b,.int .i64 c] 24
abbrev sz(a:Nat):Obj:=.cells #[.pointer (some ⟨a,0,none⟩)] 169
abbrev sC(a:Int)(b:Int)(c:Int):Obj:=.cells #[.int .i64 a,.int .i64 b,.int .i64 c] 50
abbrev sE:Obj:=.cells #[.slice none 0 0] 37
abbrev sP(a:Option Addr)(b c:Nat):Obj:=.cells #[.slice a b c] 37
abbrev sR(a:Int)(b:Option Addr)(c d:Nat)(e:Option Addr)(f g:Nat)(h:Option Addr)(i j:Nat):Obj:=.cells #[.int .i64 a,.slice b c d,.slice e f g,.slice h i j] 96
abbrev ta(a:Int)(b:Int)(c:Nat):Obj:=.cells #[.int .i64 a,.int .i64 b,.pointer (some ⟨c,0,none⟩)] 175
abbrev tb(a:Int)(b:Int)(c:Option Addr)(d e:Nat)(f:Int):Obj:=.cells #[.int .i64 a,.int .i64 b,.slice c d e,.int .i64 f] 60
abbrev tc(a:Int)(b:Int)(c:Array UInt8)(d:Bool):Obj:=.cells #[.int .i64 a,.int .i64 b,.string ⟨c⟩,.bool d] 275
abbrev td(a:Int):Obj:=.cells #[.int .i64 a] 3
abbrev te(a:Int)(b:Int)(c:Int)(d:Int)(e:Int):Obj:=.cells #[.int .i64 a,.int .i64 b,.int .i64 c,.int .i64 d,.int .i64 e] 26
abbrev tg(a:Value)(b:Value):Obj:=.cells #[a,b] 173
abbrev th(a:Int)(b:Int)(c:Int):Obj:=.cells #[.int .i64 a,.int .i64 b,.slice none 0 0,.int .i64 c] 60
abbrev ti(a:Nat):Obj:=.cells #[.pointer (some ⟨a,0,none⟩)] 45
abbrev tm(a:Int)(b:Array UInt8):Obj:=.cells #[.int .i64 a,.string ⟨b⟩] 304
abbrev tn(a:Nat)(b:Int):Obj:=.cells #[.pointer (some ⟨a,0,none⟩),.int .i64 b] 245
abbrev tr:Obj:=.cells #[.slice none 0 0,.slice none 0 0,.slice none 0 0,.slice none 0 0] 75
abbrev tw:Obj:=.cells #[.slice none 0 0,.slice none 0 0] 173
abbrev tx(a:Array UInt8)(b:Value):Obj:=.cells #[.string ⟨a⟩,b] 159
abbrev tW(a:Nat):Obj:=.cells #[.pointer (some ⟨a,0,none⟩)] 189
abbrev uc(a:Array UInt8):Obj:=.cells #[.string ⟨a⟩] 9
abbrev ud(a:Nat):Obj:=.cells #[.pointer (some ⟨a,0,none⟩)] 135
abbrev ue(a:Nat)(b:Value):Obj:=.cells #[.pointer (some ⟨a,0,none⟩),b] 140
abbrev uv(a:Value):Obj:=.cells #[a,.slice none 0 0] 173
abbrev ux(a:Bool):Obj:=.cells #[.bool a] 4
abbrev vd(a:Value):Obj:=.cells #[.slice none 0 0,a] 173
abbrev vi:Obj:=.cells #[.slice none 0 0] 122
theorem yk{a b c:Prop}(x0:a)(x1:b)(x2:c):a/\b/\c:=⟨x0,x1,x2⟩
theorem yv{a b c d:Prop}(x0:a)(x1:b)(x2:c)(x3:d):a/\b/\c/\d:=⟨x0,x1,x2,x3⟩
theorem yy{a b c d e:Prop}(x0:a)(x1:b)(x2:c)(x3:d)(x4:e):a/\b/\c/\d/\e:=⟨x0,x1,x2,x3,x4⟩
theorem yW{a b c d e f:Prop}(x0:a)(x1:b)(x2:c)(x3:d)(x4:e)(x5:f):a/\b/\c/\d/\e/\f:=⟨x0,x1,x2,x3,x4,x5⟩
theorem zc{a b c d e f g:Prop}(x0:a)(x1:b)(x2:c)(x3:d)(x4:e)(x5:f)(x6:g):a/\b/\c/\d/\e/\f/\g:=⟨x0,x1,x2,x3,x4,x5,x6⟩
theorem zp{a b c d e f g h:Prop}(x0:a)(x1:b)(x2:c)(x3:d)(x4:e)(x5:f)(x6:g)(x7:h):a/\b/\c/\d/\e/\f/\g/\h:=⟨x0,x1,x2,x3,x4,x5,x6,x7⟩
theorem An{a b c d e f g h i:Prop}(x0:a)(x1:b)(x2:c)(x3:d)(x4:e)(x5:f)(x6:g)(x7:h)(x8:i):a/\b/\c/\d/\e/\f/\g/\h/\i:=⟨x0,x1,x2,x3,x4,x5,x6,x7,x8⟩
theorem As{a b c d e f g h i j:Prop}(x0:a)(x1:b)(x2:c)(x3:d)(x4:e)(x5:f)(x6:g)(x7:h)(x8:i)(x9:j):a/\b/\c/\d/\e/\f/\g/\h/\i/\j:=⟨x0,x1,x2,x3,x4,x5,x6,x7,x8,x9⟩
theorem AD{a b c d e f g h i j k:Prop}(x0:a)(x1:b)(x2:c)(x3:d)(x4:e)(x5:f)(x6:g)(x7:h)(x8:i)(x9:j)(x10:k):a/\b/\c/\d/\e/\f/\g/\h/\i/\j/\k:=⟨x0,x1,x2,x3,x4,x5,x6,x7,x8,x9,x10⟩
theorem AF{a b c d e f g h i j k l:Prop}(x0:a)(x1:b)(x2:c)(x3:d)(x4:e)(x5:f)(x6:g)(x7:h)(x8:i)(x9:j)(x10:k)(x11:l):a/\b/\c/\d/\e/\f/\g/\h/\i/\j/\k/\l:=⟨x0,x1,x2,x3,x4,x5,x6,x7,x8,x9,x10,x11⟩
theorem AI{a b:Prop}(x0:a)(x1:b):Go.RowKit.Hid (a/\b):=⟨x0,x1⟩
theorem AM{a b c:Prop}(x0:a)(x1:b)(x2:c):Go.RowKit.Hid (a/\b/\c):=⟨x0,x1,x2⟩
theorem AN{a b c d:Prop}(x0:a)(x1:b)(x2:c)(x3:d):Go.RowKit.Hid (a/\b/\c/\d):=⟨x0,x1,x2,x3⟩
theorem AS{a b c d e:Prop}(x0:a)(x1:b)(x2:c)(x3:d)(x4:e):Go.RowKit.Hid (a/\b/\c/\d/\e):=⟨x0,x1,x2,x3,x4⟩
theorem By{a b c d e f:Prop}(x0:a)(x1:b)(x2:c)(x3:d)(x4:e)(x5:f):Go.RowKit.Hid (a/\b/\c/\d/\e/\f):=⟨x0,x1,x2,x3,x4,x5⟩
theorem BE{a b c d e f g:Prop}(x0:a)(x1:b)(x2:c)(x3:d)(x4:e)(x5:f)(x6:g):Go.RowKit.Hid (a/\b/\c/\d/\e/\f/\g):=⟨x0,x1,x2,x3,x4,x5,x6⟩
theorem BT{a b c d e f g h:Prop}(x0:a)(x1:b)(x2:c)(x3:d)(x4:e)(x5:f)(x6:g)(x7:h):Go.RowKit.Hid (a/\b/\c/\d/\e/\f/\g/\h):=⟨x0,x1,x2,x3,x4,x5,x6,x7⟩
theorem BY{a b c d e f g h i:Prop}(x0:a)(x1:b)(x2:c)(x3:d)(x4:e)(x5:f)(x6:g)(x7:h)(x8:i):Go.RowKit.Hid (a/\b/\c/\d/\e/\f/\g/\h/\i):=⟨x0,x1,x2,x3,x4,x5,x6,x7,x8⟩
theorem B7{a b c d e f g h i j:Prop}(x0:a)(x1:b)(x2:c)(x3:d)(x4:e)(x5:f)(x6:g)(x7:h)(x8:i)(x9:j):Go.RowKit.Hid (a/\b/\c/\d/\e/\f/\g/\h/\i/\j):=⟨x0,x1,x2,x3,x4,x5,x6,x7,x8,x9⟩
theorem Cd{a b c d e f g h i j k:Prop}(x0:a)(x1:b)(x2:c)(x3:d)(x4:e)(x5:f)(x6:g)(x7:h)(x8:i)(x9:j)(x10:k):Go.RowKit.Hid (a/\b/\c/\d/\e/\f/\g/\h/\i/\j/\k):=⟨x0,x1,x2,x3,x4,x5,x6,x7,x8,x9,x10⟩
theorem Cp{a b c d e f g h i j k l:Prop}(x0:a)(x1:b)(x2:c)(x3:d)(x4:e)(x5:f)(x6:g)(x7:h)(x8:i)(x9:j)(x10:k)(x11:l):Go.RowKit.Hid (a/\b/\c/\d/\e/\f/\g/\h/\i/\j/\k/\l):=⟨x0,x1,x2,x3,x4,x5,x6,x7,x8,x9,x10,x11⟩
theorem Dg{a b c d e f g h i j k l m:Prop}(x0:a)(x1:b)(x2:c)(x3:d)(x4:e)(x5:f)(x6:g)(x7:h)(x8:i)(x9:j)(x10:k)(x11:l)(x12:m):Go.RowKit.Hid (a/\b/\c/\d/\e/\f/\g/\h/\i/\j/\k/\l/\m):=⟨x0,x1,x2,x3,x4,x5,x6,x7,x8,x9,x10,x11,x12⟩
theorem DE{a b c d e f g h i j k l m n:Prop}(x0:a)(x1:b)(x2:c)(x3:d)(x4:e)(x5:f)(x6:g)(x7:h)(x8:i)(x9:j)(x10:k)(x11:l)(x12:m)(x13:n):Go.RowKit.Hid (a/\b/\c/\d/\e/\f/\g/\h/\i/\j/\k/\l/\m/\n):=⟨x0,x1,x2,x3,x4,x5,x6,x7,x8,x9,x10,x11,x12,x13⟩
theorem DH{a b c d e f g h i j k l m n o:Prop}(x0:a)(x1:b)(x2:c)(x3:d)(x4:e)(x5:f)(x6:g)(x7:h)(x8:i)(x9:j)(x10:k)(x11:l)(x12:m)(x13:n)(x14:o):Go.RowKit.Hid (a/\b/\c/\d/\e/\f/\g/\h/\i/\j/\k/\l/\m/\n/\o):=⟨x0,x1,x2,x3,x4,x5,x6,x7,x8,x9,x10,x11,x12,x13,x14⟩
theorem DO{a b c d e f g h i j k l m n o p:Prop}(x0:a)(x1:b)(x2:c)(x3:d)(x4:e)(x5:f)(x6:g)(x7:h)(x8:i)(x9:j)(x10:k)(x11:l)(x12:m)(x13:n)(x14:o)(x15:p):Go.RowKit.Hid (a/\b/\c/\d/\e/\f/\g/\h/\i/\j/\k/\l/\m/\n/\o/\p):=⟨x0,x1,x2,x3,x4,x5,x6,x7,x8,x9,x10,x11,x12,x13,x14,x15⟩
theorem DP{a b c d e f g h i j k l m n o p q:Prop}(x0:a)(x1:b)(x2:c)(x3:d)(x4:e)(x5:f)(x6:g)(x7:h)(x8:i)(x9:j)(x10:k)(x11:l)(x12:m)(x13:n)(x14:o)(x15:p)(x16:q):Go.RowKit.Hid (a/\b/\c/\d/\e/\f/\g/\h/\i/\j/\k/\l/\m/\n/\o/\p/\q):=⟨x0,x1,x2,x3,x4,x5,x6,x7,x8,x9,x10,x11,x12,x13,x14,x15,x16⟩
theorem DQ{a b c d e f g h i j k l m n o p q r:Prop}(x0:a)(x1:b)(x2:c)(x3:d)(x4:e)(x5:f)(x6:g)(x7:h)(x8:i)(x9:j)(x10:k)(x11:l)(x12:m)(x13:n)(x14:o)(x15:p)(x16:q)(x17:r):Go.RowKit.Hid (a/\b/\c/\d/\e/\f/\g/\h/\i/\j/\k/\l/\m/\n/\o/\p/\q/\r):=⟨x0,x1,x2,x3,x4,x5,x6,x7,x8,x9,x10,x11,x12,x13,x14,x15,x16,x17⟩
theorem DS{a b c d e f g h i j k l m n o p q r s:Prop}(x0:a)(x1:b)(x2:c)(x3:d)(x4:e)(x5:f)(x6:g)(x7:h)(x8:i)(x9:j)(x10:k)(x11:l)(x12:m)(x13:n)(x14:o)(x15:p)(x16:q)(x17:r)(x18:s):Go.RowKit.Hid (a/\b/\c/\d/\e/\f/\g/\h/\i/\j/\k/\l/\m/\n/\o/\p/\q/\r/\s):=⟨x0,x1,x2,x3,x4,x5,x6,x7,x8,x9,x10,x11,x12,x13,x14,x15,x16,x17,x18⟩
theorem D0{a b c d e f g h i j k l m n o p q r s t:Prop}(x0:a)(x1:b)(x2:c)(x3:d)(x4:e)(x5:f)(x6:g)(x7:h)(x8:i)(x9:j)(x10:k)(x11:l)(x12:m)(x13:n)(x14:o)(x15:p)(x16:q)(x17:r)(x18:s)(x19:t):Go.RowKit.Hid (a/\b/\c/\d/\e/\f/\g/\h/\i/\j/\k/\l/\m/\n/\o/\p/\q/\r/\s/\t):=⟨x0,x1,x2,x3,x4,x5,x6,x7,x8,x9,x10,x11,x12,x13,x14,x15,x16,x17,x18,x19⟩
theorem D1{a b c d e f g h i j k l m n o p q r s t u:Prop}(x0:a)(x1:b)(x2:c)(x3:d)(x4:e)(x5:f)(x6:g)(x7:h)(x8:i)(x9:j)(x10:k)(x11:l)(x12:m)(x13:n)(x14:o)(x15:p)(x16:q)(x17:r)(x18:s)(x19:t)(x20:u):Go.RowKit.Hid (a/\b/\c/\d/\e/\f/\g/\h/\i/\j/\k/\l/\m/\n/\o/\p/\q/\r/\s/\t/\u):=⟨x0,x1,x2,x3,x4,x5,x6,x7,x8,x9,x10,x11,x12,x13,x14,x15,x16,x17,x18,x19,x20⟩
theorem EV{a b c d e f g h i j k l m n o p q r s t u v:Prop}(x0:a)(x1:b)(x2:c)(x3:d)(x4:e)(x5:f)(x6:g)(x7:h)(x8:i)(x9:j)(x10:k)(x11:l)(x12:m)(x13:n)(x14:o)(x15:p)(x16:q)(x17:r)(x18:s)(x19:t)(x20:u)(x21:v):Go.RowKit.Hid (a/\b/\c/\d/\e/\f/\g/\h/\i/\j/\k/\l/\m/\n/\o/\p/\q/\r/\s/\t/\u/\v):=⟨x0,x1,x2,x3,x4,x5,x6,x7,x8,x9,x10,x11,x12,x13,x14,x15,x16,x17,x18,x19,x20,x21⟩
theorem Fc{a b c d e f g h i j k l m n o p q r s t u v w:Prop}(x0:a)(x1:b)(x2:c)(x3:d)(x4:e)(x5:f)(x6:g)(x7:h)(x8:i)(x9:j)(x10:k)(x11:l)(x12:m)(x13:n)(x14:o)(x15:p)(x16:q)(x17:r)(x18:s)(x19:t)(x20:u)(x21:v)(x22:w):Go.RowKit.Hid (a/\b/\c/\d/\e/\f/\g/\h/\i/\j/\k/\l/\m/\n/\o/\p/\q/\r/\s/\t/\u/\v/\w):=⟨x0,x1,x2,x3,x4,x5,x6,x7,x8,x9,x10,x11,x12,x13,x14,x15,x16,x17,x18,x19,x20,x21,x22⟩
theorem Fi{a b c d e f g h i j k l m n o p q r s t u v w x:Prop}(x0:a)(x1:b)(x2:c)(x3:d)(x4:e)(x5:f)(x6:g)(x7:h)(x8:i)(x9:j)(x10:k)(x11:l)(x12:m)(x13:n)(x14:o)(x15:p)(x16:q)(x17:r)(x18:s)(x19:t)(x20:u)(x21:v)(x22:w)(x23:x):Go.RowKit.Hid (a/\b/\c/\d/\e/\f/\g/\h/\i/\j/\k/\l/\m/\n/\o/\p/\q/\r/\s/\t/\u/\v/\w/\x):=⟨x0,x1,x2,x3,x4,x5,x6,x7,x8,x9,x10,x11,x12,x13,x14,x15,x16,x17,x18,x19,x20,x21,x22,x23⟩
set_option maxRecDepth 100000
open Go.RowKit
theorem ab {a b:Prop} (h:a) (k:b):a/\b:=⟨h,k⟩
theorem al {p:Prop} (h:p):Go.RowKit.Hid p:=h
abbrev an:=@heap_alloc_new
abbrev ao:=@List.getElem?_eq_getElem
abbrev aq:=@World.block_lt_of_cell?
abbrev aw:=@Below.refl
abbrev bd:=@List.getElem?_eq_some_iff
abbrev b8:=@Nat.le_refl
abbrev cq:=@Array.getElem?_eq_some_iff
abbrev da:=@Nat.lt_of_lt_of_le
abbrev db:=@List.mem_of_getElem?
abbrev dd:=@heap_setCell_same
abbrev de:=@List.eq_nil_of_length_eq_zero
abbrev dj:=@bodyPost_ret
abbrev dp:=@Nat.le_trans
abbrev dq:=@Nat.zero_le
abbrev dr:=@List.mem_append
abbrev du:=@results_none
abbrev dy:=@Nat.mul_le_mul_right
abbrev ea:=@World.ownsRow_nil
abbrev eb:=@World.news_of_block
abbrev ee:=@List.Pairwise.nil
abbrev ef:=@info_parts
abbrev eh:=@List.mem_map
abbrev ep:=@wpList_append_lies
abbrev et:=@bodyPost_end
abbrev ew:=@congrArg
abbrev eC:=@Option.some.inj
abbrev eE:=@Int.le_refl
abbrev eL:=@List.pairwise_cons
abbrev eM:=@List.drop_eq_nil_of_le
abbrev eR:=@List.mem_cons
abbrev eS:=@List.length_map
abbrev ff:=@if_neg
abbrev fi:=@if_pos
abbrev fj:=@Option.some.injEq
abbrev fl:=@List.mem_singleton
abbrev fm:=@List.nil_append
abbrev fs:=@Exit.noGoto_ret
abbrev gd:=@Array.getElem?_eq_getElem
abbrev gk:=@List.length_append
abbrev gn:=@List.take_length
abbrev gr:=@List.append_nil
abbrev gC:=@Array.getElem?_setIfInBounds
abbrev gE:=@List.take_of_length_le
abbrev gO:=@Nat.add_assoc
abbrev gR:=@Nat.zero_add
abbrev ie:=@Addr.add_lit
abbrev im:=@Value.slice.injEq
abbrev ir:=@List.take_add_one
abbrev iv:=@Int.toNat_natCast
abbrev ix:=@List.map_append
abbrev iS:=@List.getElem?_cons_zero
abbrev jj:=@List.length_cons
abbrev kb:=@List.getElem?_append_right
abbrev kh:=@List.map_nil
abbrev kn:=@List.take_zero
abbrev kt:=@List.getElem?_append_left
abbrev lk:=@List.length_take
abbrev lp:=@Nat.succ_mul
abbrev lr:=@List.map_drop
abbrev lx:=@List.map_cons
abbrev lz:=@List.append_assoc
abbrev lE:=@List.flatten_append
abbrev lP:=@IntKind.wrap_i64
abbrev mc:=@List.map_take
abbrev me:=@Prod.mk.injEq
abbrev mu:=@List.getElem?_take
abbrev mv:=@List.getElem?_drop
abbrev mw:=@Bool.and_eq_true
abbrev my:=@Bool.false_eq_true
abbrev mT:=@Nat.add_zero
abbrev nf:=@List.length_drop
abbrev nh:=@List.cons_append
abbrev nw:=@List.size_toArray
abbrev nx:=@Addr.mk.injEq
abbrev nF:=@List.length_nil
abbrev oe:=@Option.isSome_some
abbrev oj:=@Option.isSome_none
abbrev ox:=@List.filter_append
abbrev oy:=@List.getElem?_map
abbrev oB:=@Nat.min_eq_left
abbrev oE:=@Nat.add_sub_cancel
structure Only (S:Nat->Prop) (w w':World):Prop where
 os:w'.os=w.os
 tape:w'.tape=w.tape
 output:w'.output=w.output
 size:w.heap.size<=w'.heap.size
 block: ∀k,k<w.heap.size-> ¬S k->w'.heap[k]?=w.heap[k]?
section
variable{S T:Nat->Prop}{w w' w'':World}
theorem Only.refl(S:Nat->Prop)(w:World):Only S w w:=⟨rfl,rfl,rfl,b8 _,fun _ _ _=>rfl⟩
theorem Only.trans(h:Only S w w')(k:Only T w' w'')(c: ∀i,i<w.heap.size->T i->S i):Only S w w'':=
 ⟨k.os.x h.os,k.tape.x h.tape,k.output.x h.output,dp h.size k.size,
  fun i a b=>(k.block i (da a h.size) (fun d=>b (c i a d))).x (h.block i a b)⟩
abbrev Only.x:=@Only.trans
theorem Only.mono(h:Only S w w')(d: ∀i,i<w.heap.size->S i->T i):Only T w w':=
 ⟨h.os,h.tape,h.output,h.size,fun i a b=>h.block i a (fun c=>b (d i a c))⟩
abbrev Only.m:=@Only.mono
theorem Only.drew(h:Only S w w'):Only S w w'.drew:=⟨h.os,h.tape,h.output,h.size,h.block⟩
theorem Only.drewN(h:Only S w w')(n:Nat):Only S w (w'.drewN n):=⟨h.os,h.tape,h.output,h.size,h.block⟩
theorem Only.alloc(h:Only S w w')(o:Obj):Only S w (w'.alloc o):=
 h.trans (T:=S) ⟨rfl,rfl,rfl,by simp,fun k a _=>Below.heap_alloc _ _ _ a⟩ (fun _ _ a=>a)
theorem Only.setCell(h:Only S w w'){p:Addr}(a:p.block<w.heap.size->S p.block)(u:Value):Only S w (w'.setCell p u):=
 h.trans (T:=fun k=>k=p.block) ⟨rfl,rfl,rfl,by simp[World.setCell],fun k _ b=>Below.heap_setCell _ _ _ _ b⟩ (fun i b e=>by subst e;exact a b)
theorem Only.grown(h:Only S w w'){b:Option Nat}(a:w'.grownBy w'' b)(f: ∀k,b=some k->k<w.heap.size->S k):Only S w w'':=
 h.trans (T:=fun k=>b=some k) ⟨a.os,a.tape,a.output,a.size,fun k d c=>a.block k d (fun e=>c e.symm)⟩ (fun i c e=>f i e c)
theorem Only.of_grownBy{b:Option Nat}(a:w.grownBy w' b):Only (fun k=>b=some k) w w':=
 ⟨a.os,a.tape,a.output,a.size,fun k d c=>a.block k d (fun e=>c e.symm)⟩
theorem Only.of_below(h:Below w.heap.size w w')(S:Nat->Prop):Only S w w':=⟨h.os,h.tape,h.output,h.size,fun k a _=>h.block k a⟩
theorem Only.below(h:Only S w w')(b: ∀k,k<w.heap.size-> ¬S k):Below w.heap.size w w':=⟨h.os,h.tape,h.output,h.size,fun k a=>h.block k a (b k a)⟩
theorem Only.aI{N:Nat}(h:Only S w w')(c:N<=w.heap.size)(b: ∀k,k<N-> ¬S k):Below N w w':=⟨h.os,h.tape,h.output,h.size,fun k a=>h.block k (by omega) (b k a)⟩
theorem Only.cell(h:Only S w w'){p:Addr}{v:Value}(a:w.cell? p=some v)(b: ¬S p.block):w'.cell? p=some v:=
 (World.cell?_of_block (h.block p.block (aq w p a) b)).x a
theorem Only.heap(h:Only S w w'){k:Nat}{o:Obj}(a:w.heap[k]?=some o)(b: ¬S k):w'.heap[k]?=some o:=
 (h.block k (cq.1 a).1 b).x a
end
theorem _root_.Go.RowKit.Below.VQ{B:Nat}{w w':World}(h:Below B w w'):Only (fun k=>B<=k) w w':=⟨h.os,h.tape,h.output,h.size,fun k _ a=>h.block k (by omega)⟩
theorem fI{B:Nat}{w w':World}(h:Below B w.drew w'):Below B w w':=⟨h.os,h.tape,h.output,h.size,h.block⟩
theorem Only.fI{S:Nat->Prop}{w w':World}(h:Only S w.drew w'):Only S w w':=⟨h.os,h.tape,h.output,h.size,h.block⟩
theorem Only.aR(w:World)(b o:Nat)(u:Value):Only (fun k=>k=b) w (w.setCell ⟨b,o,none⟩ u):=
 (Only.refl (fun k=>k=b) w).setCell (p:=⟨b,o,none⟩) (fun _=>rfl) u
def Rd(w:World)(F:Nat->Prop)(v:Value)(xs:List Value):Prop:=
 ∃(A:Option Addr) (n c:Nat),v=.slice A n c/\xs.length=n/\n<=c/\c<=maxLen/\
  (0<n-> ∃b o,A=some ⟨b,o,none⟩/\F b/\ ∀j u,xs[j]?=some u->w.cell? ⟨b,o+j,none⟩=some u)
section
variable{F G S:Nat->Prop}{w w':World}{v:Value}{xs:List Value}
theorem Rd.mono(j:Rd w F v xs)(a: ∀k,F k->G k):Rd w G v xs:=by obtain⟨A,n,l,g,i,f,h,c⟩:=j;exact⟨A,n,l,g,i,f,h,fun d=>let⟨b,o,e,hb,hu⟩:=c d;⟨b,o,e,a b hb,hu⟩⟩
abbrev Rd.m:=@Rd.mono
theorem Rd.only(l:Rd w F v xs)(j:Only S w w')(d: ∀k,F k-> ¬S k):Rd w' F v xs:=by obtain⟨A,p,m,g,i,f,h,c⟩:=l;exact⟨A,p,m,g,i,f,h,fun a=>let⟨b,o,e,hb,hu⟩:=c a;⟨b,o,e,hb,fun n u a=>j.cell (hu n u a) (d b hb)⟩⟩
theorem Rd.below(h:Rd w F v xs)(a:Below w.heap.size w w'):Rd w' F v xs:=h.only (Only.of_below a fun _=>False) (fun _ _=>id)
theorem Rd.drewN(h:Rd w F v xs)(n:Nat):Rd (w.drewN n) F v xs:=h.only ((Only.refl (fun _=>False) w).drewN n) (fun _ _ h=>h)
theorem Rd.nil(w:World)(F:Nat->Prop):Rd w F (.slice none 0 0) []:=⟨none,0,0,rfl,rfl,b8 _,by simp[maxLen],fun h=>absurd h (by omega)⟩
theorem Rd.bO{base:Nat}{e:TypeId}{n:Nat}(h:w.ownsRow base e 1 v n xs)(a: ∀g,v.ownBlock=some g->F g):Rd w F v xs:=by
 rcases h.2 with⟨rfl,rfl⟩|⟨g,f,i,rfl,_,l,b,c,k,j⟩
 ·have:xs=[]:=de (by simpa using h.1);subst this;exact Rd.nil w F
 ·refine⟨_,_,_,rfl,by simpa using h.1,b,c,fun _=>⟨g,0,rfl,a g rfl,fun m u d=>?_⟩⟩;have:=h.cells (g:=g) rfl m u d;unfold Addr.add at this;split at this
  ·subst_vars;simpa using this
  ·simpa using this
theorem vT{p:Addr}(b: ∀k o,F k->w.heap[k]?=some o->w'.heap[k]?=some o)(c:F p.block)(h:w.cell? p=some v):w'.cell? p=some v:=by have a:=aq w p h;exact(World.cell?_of_block (by rw[b p.block _ c (gd a),gd a])).x h
theorem Rd.agree(j:Rd w F v xs)(a: ∀k o,F k->w.heap[k]?=some o->w'.heap[k]?=some o):Rd w' F v xs:=by obtain⟨A,n,l,h,f,g,i,d⟩:=j;exact⟨A,n,l,h,f,g,i,fun c=>let⟨b,o,e,hb,hu⟩:=d c;⟨b,o,e,hb,fun m u c=>vT a hb (hu m u c)⟩⟩
theorem Rd.bound(j:Rd w F v xs):Rd w (fun k=>F k/\k<w.heap.size) v xs:=by obtain⟨A,n,l,g,i,f,h,c⟩:=j;refine⟨A,n,l,g,i,f,h,fun d=>?_⟩;obtain⟨m,o,e,b,a⟩:=c d;exact⟨m,o,e,⟨b,aq w _ (a 0 _ (ao (by omega)))⟩,a⟩
theorem Rd.length_le(h:Rd w F v xs):xs.length<=maxLen:=by obtain⟨A,n,f,c,e,b,d,a⟩:=h;omega
theorem Rd.cells(s:Rd w F v xs){A:Option Addr}{n c:Nat}(a:v=.slice A n c): ∀i,A=some i-> ∀j u,xs[j]?=some u->w.cell? (i.add j)=some u:=by
 obtain⟨q,r,m,d,o,p,l,f⟩:=s;rw[d]at a;injection a with h b g;subst h;subst b;subst g;intro i g j u b;have k:j<xs.length:=(bd.1 b).1;obtain⟨t,x,e,_,h⟩:=f (by omega);rw[g]at e;injection e with e;subst e;have:=h j u b;unfold Addr.add;split
 ·subst_vars;simpa using this
 ·simpa using this
end
theorem cw{w:World}{base:Nat}{e t:TypeId}{size n g:Nat}{v:Value}{xs:List Value}{cs:Array Value}{fr:Nat×Nat}(k:w.ownsRow base e size v n xs)(f:w.heap[g]?=some (.cells cs t fr))(b:e≠t):v.ownBlock≠some g:=by
 rcases k.2 with⟨rfl,_⟩|⟨h,i,j,rfl,_,a,_⟩
 ·simp[Value.ownBlock]
 ·intro c;have:h=g:=by simpa[Value.ownBlock]using c
  subst this;rw[f]at a;injection a with a;injection a with _ d;exact b d.symm
theorem BM{w:World}{base:Nat}{e:TypeId}{size n g:Nat}{v:Value}{xs:List Value}(h:w.ownsRow base e size v n xs)(a:v.ownBlock=some g): ∃b c,w.heap[g]?=some (.cells b e c):=by
 rcases h.2 with⟨rfl,_⟩|⟨c,d,f,rfl,_,b,_⟩
 ·simp[Value.ownBlock]at a
 ·have:c=g:=by simpa[Value.ownBlock]using a
  subst this;exact⟨_,_,b⟩
theorem iX{w:World}{base base':Nat}{e a:TypeId}{size b n h g:Nat}{v v':Value}{xs d:List Value}(m:w.ownsRow base e size v n xs)(i:w.ownsRow base' a b v' h d)(c:e≠a)(j:v.ownBlock=some g):v'.ownBlock≠some g:=by obtain⟨k,l,f⟩:=BM m j;exact cw i f (Ne.symm c)
theorem bD{w w':World}{base:Nat}{e:TypeId}{size n:Nat}{v:Value}{xs:List Value}(i:w.ownsRow base e size v n xs)(g:Below w.heap.size w w'):w'.ownsRow base e size v n xs:=by
 refine⟨i.1,?_⟩;rcases i.2 with h|⟨j,c,d,rfl,f,a,b⟩
 ·exact .inl h
 ·exact .inr ⟨j,c,d,rfl,f,by rw[g.block j (Array.getElem?_eq_some_iff.1 a).1];exact a,b⟩
theorem aQ{w w':World}{S:Nat->Prop}{base:Nat}{e:TypeId}{size n:Nat}{v:Value}{xs:List Value}(k:w.ownsRow base e size v n xs)(h:Only S w w')(j: ∀g,v.ownBlock=some g-> ¬S g):w'.ownsRow base e size v n xs:=by
 refine⟨k.1,?_⟩;rcases k.2 with i|⟨g,c,d,rfl,f,b,a⟩
 ·exact .inl i
 ·exact .inr ⟨g,c,d,rfl,f,h.heap b (j g rfl),a⟩
theorem dF{w:World}{base base':Nat}{e:TypeId}{size n:Nat}{v:Value}{xs:List Value}(i:w.ownsRow base e size v n xs)(f: ∀g,v.ownBlock=some g->base'<=g):w.ownsRow base' e size v n xs:=by
 refine⟨i.1,?_⟩;rcases i.2 with h|⟨g,c,d,rfl,j,b,a⟩
 ·exact .inl h
 ·exact .inr ⟨g,c,d,rfl,f g rfl,b,a⟩
theorem Uy{W w1:World}(a:Below W.heap.size W w1):(∀b o,b<W.heap.size->w1.cell? ⟨b,o,none⟩=W.cell? ⟨b,o,none⟩)/\(∀b o,b<W.heap.size->w1.frozen? ⟨b,o,none⟩=W.frozen? ⟨b,o,none⟩):=
 ⟨fun b o h=>a.cell (p:=⟨b,o,none⟩) h,fun b o h=>a.frozen (p:=⟨b,o,none⟩) h⟩
theorem qB{P:Program}{f:FuncId}{args:Array Value}{w:World}{n:Nat}{v:Value}
  (h:Calls P f args (w.drewN n) fun e w'=>e=.returned v/\w.drewN n=w'):Calls P f args (w.drewN n) fun e w''=>e=.returned v/\ ∃m,w''=w.drewN m:=
 h.m fun _ _ ⟨a,b⟩=>⟨a,n,b.symm⟩
def B8(x:UInt8):Value:=.int .u8 (x.toNat:Int)
theorem sD(xs:List UInt8): ∀u∈xs.map B8,u.oneCell'=true:=by intro u a;obtain⟨x,_,rfl⟩:=eh.1 a;rfl
section
variable{P:Program}(w:World)
theorem lS(base:Nat)(t f e:TypeId)(i:TypeInfo)(size:Nat)(a:P.underlying t=some (.slice e))(hi:P.info? e=some i)
  (v:Value) (n:Nat) (xs:List Value) (b:w.ownsRow base e size v n xs) (c:Nat):(Builtin.append_ #[t,t] f #[v,.slice none 0 c]).run P w=.ok v w:=by
 rcases b.2 with⟨rfl,rfl⟩|⟨j,h,g,rfl,_,_,d,_⟩
 ·simp[Builtin.append_,run_underlying a,sizeOf,typeInfo,hi,Builtin.lenOf,Builtin.firstCells]
 ·simp[Builtin.append_,run_underlying a,sizeOf,typeInfo,hi,Builtin.lenOf,Builtin.firstCells,d,storeCells]
theorem yI(base:Nat)(t d e:TypeId)(i:TypeInfo)(D:Value)(b:Nat)(h:P.underlying t=some (.slice e))(hi:P.info? e=some i)(A:i.zero=some D)
  (p:i.size=1) (y:i.bytes=b) (z:D.cells.size=1)
  (v:Value) (n:Nat) (xs:List Value) (c:w.ownsRow base e 1 v n xs) (F:Nat->Prop) (x:Value) (news:List Value) (B:Rd w F x news) (C: ∀u∈news,u.oneCell'=true)
  (o:(n+news.length)*b<=140737488355328) (r:n+news.length<=maxLen) (q:base<=w.heap.size):
  ∃a w',(Builtin.append_ #[t,t] d #[v,x]).run P w=.ok a w'/\w'.ownsRow base e 1 a (n+news.length) (xs++news)/\w.grownBy w' v.ownBlock/\
   (a.ownBlock=v.ownBlock\/a.ownBlock=some w.heap.size):=by
 obtain⟨J,M,E,rfl,f,H,I,g⟩:=B;subst f;rcases J with _|j
 ·have l:news.length=0:=by
   rcases Nat.eq_zero_or_pos news.length with f|f
   ·exact f
   ·obtain⟨L,K,k,_⟩:=g f;cases k
  have f:news=[]:=de l;subst f;exact⟨v,w,lS w base t d e i 1 h hi v n xs c E,by simpa using c,World.grownBy.refl w _,.inl rfl⟩
 ·have m: ∀l u,news[l]?=some u->w.cell? (j.add l)=some u:=by
   intro l u f;have G:l<news.length:=(bd.1 f).1;obtain⟨L,K,k,_,s⟩:=g (by omega);injection k with k;subst k;have:=s l u f;unfold Addr.add;split
   ·subst_vars;simpa using this
   ·simpa using this
  obtain⟨a,w',f,k,l,_,s⟩:=run_append_own_at (P:=P) w base t d e i D 1 b h hi A p y z (by decide) v n xs c j news.length E news (by simp) m C r o q;exact⟨a,w',f,k,l,s⟩
theorem BN{o:Oper}{a:Act}{K:Act->World->Prop}{Q:Exit->Act->World->Prop}(s x:Operand)(t:TypeId)
  (u:o.op=.call {callee:=.builtin .append,args:= #[s,x],argTypes:= #[t,t]})
  (base:Nat) (e:TypeId) (i:TypeInfo) (G:Value) (c:Nat) (r:P.underlying t=some (.slice e)) (hi:P.info? e=some i) (z:i.zero=some G)
  (g:i.size=1) (p:i.bytes=c) (m:G.cells.size=1)
  (v:Value) (n:Nat) (xs:List Value) (D:a.eval s=v) (k:w.ownsRow base e 1 v n xs) (F:Nat->Prop) (d:Value) (news:List Value) (A:a.eval x=d) (y:Rd w F d news) (C: ∀b∈news,b.oneCell'=true)
  (f:(n+news.length)*c<=140737488355328) (l:n+news.length<=maxLen) (h:base<=w.heap.size)
  (H: ∀b w',w'.ownsRow base e 1 b (n+news.length) (xs++news)->w.grownBy w' v.ownBlock->(b.ownBlock=v.ownBlock\/b.ownBlock=some w.heap.size)->K (a.put o.dst b) w'):o.wp P a w K Q:=by
 obtain⟨b,w',j,q,B,E⟩:=yI (P:=P) w base t o.type e i G c r hi z g p m v n xs k F d news y C f l h;unfold Oper.wp execOp;simp only[u,resolve,invoke,builtin,Sem.run_bind,Sem.run_pure,Result.andThen_ok,List.map_toArray,lx,kh,D,A,j];exact H b w' q B E
theorem iY{ops:Array Oper}{f:List Oper}{o:Oper}{a:Act}{Q:Exit->Act->World->Prop}(m:o.guard=none)(s x:Operand)(t:TypeId)
  (z:o.op=.call {callee:=.builtin .append,args:= #[s,x],argTypes:= #[t,t]})
  (base:Nat) (e:TypeId) (i:TypeInfo) (I:Value) (c:Nat) (u:P.underlying t=some (.slice e)) (hi:P.info? e=some i) (B:i.zero=some I)
  (h:i.size=1) (p:i.bytes=c) (q:I.cells.size=1)
  (v:Value) (n:Nat) (xs:List Value) (E:a.eval s=v) (k:w.ownsRow base e 1 v n xs) (F:Nat->Prop) (d:Value) (news:List Value) (C:a.eval x=d) (A:Rd w F d news) (G: ∀b∈news,b.oneCell'=true)
  (g:(n+news.length)*c<=140737488355328) (l:n+news.length<=maxLen) (j:base<=w.heap.size)
  (J: ∀b w',w'.ownsRow base e 1 b (n+news.length) (xs++news)->w.grownBy w' v.ownBlock->(b.ownBlock=v.ownBlock\/b.ownBlock=some w.heap.size)->wpList P ops Q f (a.put o.dst b) w'):wpList P ops Q (o::f) a w:=
 wpList_plain m fun _ y=>BN w s x t z base e i I c u hi B h p q v n xs E k F d news C A G g l j fun b w' r D H=>y _ _ (J b w' r D H)
end
theorem aJ{w:World}{p:Addr}{v:Value}(h:w.cell? p=some v)(o:Obj):(w.alloc o).cell? p=some v:=
 (World.cell?_alloc_lt w o p (aq w p h)).x h
theorem aB{w:World}{b:Nat}{v:Value}{t:TypeId}(h:w.heap[b]?=some (.cells #[v] t (0,0))):w.cell? ⟨b,0,none⟩=some v:=by simp[World.cell?,h]
theorem bj{w:World}{b:Nat}{v:Value}{t:TypeId}(h:w.heap[b]?=some (.cells #[v] t (0,0))):w.frozen? ⟨b,0,none⟩=false:=by simp[World.frozen?,h]
theorem ar{w:World}{base:Nat}{e:TypeId}{size:Nat}{v:Value}{n:Nat}{xs:List Value}(h:w.ownsRow base e size v n xs): ∃A c,v=.slice A n c:=by
 rcases h.2 with⟨rfl,rfl⟩|⟨g,b,a,rfl,_⟩
 ·exact⟨_,_,rfl⟩
 ·exact⟨_,_,rfl⟩
structure OnlyC (F:Nat->Nat->Prop) (w w':World):Prop where
 os:w'.os=w.os
 tape:w'.tape=w.tape
 output:w'.output=w.output
 size:w.heap.size<=w'.heap.size
 shape: ∀k cs t fr,w.heap[k]?=some (.cells cs t fr)-> ∃cs',w'.heap[k]?=some (.cells cs' t fr)/\cs'.size=cs.size/\ ∀j,¬F k j->cs'[j]?=cs[j]?
 block: ∀k,k<w.heap.size->(∀j,¬F k j)->w'.heap[k]?=w.heap[k]?
section
variable{F G:Nat->Nat->Prop}{w w' w'':World}
theorem OnlyC.refl(F:Nat->Nat->Prop)(w:World):OnlyC F w w:=⟨rfl,rfl,rfl,b8 _,fun _ a _ _ h=>⟨a,h,rfl,fun _ _=>rfl⟩,fun _ _ _=>rfl⟩
theorem lt_of_heap{w:World}{k:Nat}{o:Obj}(h:w.heap[k]?=some o):k<w.heap.size:=(cq.1 h).1
theorem OnlyC.trans(h:OnlyC F w w')(k:OnlyC G w' w'')(d: ∀b o,b<w.heap.size->G b o->F b o):OnlyC F w w'':=by
 refine⟨k.os.x h.os,k.tape.x h.tape,k.output.x h.output,dp h.size k.size,?_,?_⟩
 ·intro b p t f a;obtain⟨i,r,l,o⟩:=h.shape b p t f a;obtain⟨g,m,q,n⟩:=k.shape b i t f r;exact⟨g,m,q.x l,fun j e=>(n j (fun c=>e (d b j (lt_of_heap a) c))).x (o j e)⟩
 ·intro b a e;exact(k.block b (da a h.size) (fun j c=>e j (d b j a c))).x (h.block b a e)
abbrev OnlyC.x:=@OnlyC.trans
theorem OnlyC.mono(h:OnlyC F w w')(d: ∀c o,c<w.heap.size->F c o->G c o):OnlyC G w w':=
 ⟨h.os,h.tape,h.output,h.size,fun c b t e a=>let⟨cs',h1,h2,h3⟩:=h.shape c b t e a;⟨cs',h1,h2,fun j e=>h3 j (fun b=>e (d c j (lt_of_heap a) b))⟩,
  fun c a e=>h.block c a (fun j b=>e j (d c j a b))⟩
abbrev OnlyC.m:=@OnlyC.mono
theorem OnlyC.of_below(h:Below w.heap.size w w')(F:Nat->Nat->Prop):OnlyC F w w':=
 ⟨h.os,h.tape,h.output,h.size,fun c b t d a=>⟨b,by rw[h.block c (lt_of_heap a)];exact a,rfl,fun _ _=>rfl⟩,fun c a _=>h.block c a⟩
theorem OnlyC.drew(h:OnlyC F w w'):OnlyC F w w'.drew:=⟨h.os,h.tape,h.output,h.size,h.shape,h.block⟩
theorem OnlyC.drewN(h:OnlyC F w w')(n:Nat):OnlyC F w (w'.drewN n):=⟨h.os,h.tape,h.output,h.size,h.shape,h.block⟩
theorem OnlyC.fI(h:OnlyC F w.drew w'):OnlyC F w w':=⟨h.os,h.tape,h.output,h.size,h.shape,h.block⟩
theorem OnlyC.below(h:OnlyC F w w')(b: ∀a o,a<w.heap.size-> ¬F a o):Below w.heap.size w w':=⟨h.os,h.tape,h.output,h.size,fun k a=>h.block k a (fun j=>b k j a)⟩
theorem OnlyC.only(h:OnlyC F w w'):Only (fun k=> ∃j,F k j) w w':=⟨h.os,h.tape,h.output,h.size,fun k a b=>h.block k a (fun j a=>b ⟨j,a⟩)⟩
theorem OnlyC.aR(w:World)(b o:Nat)(u:Value):OnlyC (fun k j=>k=b/\j=o) w (w.setCell ⟨b,o,none⟩ u):=by
 refine⟨rfl,rfl,rfl,by simp[World.setCell],?_,?_⟩
 ·intro k c t g d;by_cases a:k=b
  ·subst a;refine⟨c.setIfInBounds o u,?_,by simp,fun j f=>?_⟩
   ·simp[World.setCell,Array.getElem?_modify,d]
   ·rw[gC,ff (fun e=>f ⟨rfl,e.symm⟩)]
  ·exact⟨c,by rw[Below.heap_setCell _ _ _ _ a];exact d,rfl,fun _ _=>rfl⟩
 ·intro k _ c;by_cases a:k=b
  ·subst a;exact absurd ⟨rfl,rfl⟩ (c o)
  ·exact Below.heap_setCell _ _ _ _ a
theorem OnlyC.setCell(h:OnlyC F w w'){b o:Nat}(a:b<w.heap.size->F b o)(u:Value):OnlyC F w (w'.setCell ⟨b,o,none⟩ u):=
 h.x (OnlyC.aR w' b o u) (fun k j c ⟨e,d⟩=>by subst e;subst d;exact a c)
theorem OnlyC.alloc(h:OnlyC F w w')(o:Obj):OnlyC F w (w'.alloc o):=
 h.x (OnlyC.of_below ((aw _ _).alloc (b8 _) o) (fun _ _=>False)) (fun _ _ _ h=>h.elim)
theorem OnlyC.heap(h:OnlyC F w w'){k:Nat}{o:Obj}(a:w.heap[k]?=some o)(b: ∀j,¬F k j):w'.heap[k]?=some o:=(h.block k (lt_of_heap a) b).x a
theorem OnlyC.cell(k:OnlyC F w w'){b o:Nat}{v:Value}(a:w.cell? ⟨b,o,none⟩=some v)(d: ¬F b o):w'.cell? ⟨b,o,none⟩=some v:=by
 unfold World.cell? at a;split at a
 ·rename_i f t h c;obtain⟨i,g,j,e⟩:=k.shape b f t h c;simp only[World.cell?,g];rw[e o d];exact a
 ·cases a
end
def aH(k:Nat)(t:TypeId)(w:World)(v:Value)(xs:List (List Value))(F:Nat->Nat->Prop):Prop:=
 ∃(A:Option Addr) (c:Nat),v=.slice A xs.length c/\xs.length<=c/\c<=maxLen/\(∀x∈xs,x.length=k)/\
  ((c=0/\(A=none\/ ∃b o,A=some ⟨b,o,none⟩))\/ ∃b o a,A=some ⟨b,o,none⟩/\w.heap[b]?=some (.cells a t (0,0))/\o+c*k<=a.size/\(∀j,o<=j->j<o+c*k->F b j)/\ ∀j u,xs.flatten[j]?=some u->a[o+j]?=some u)
section
variable{k:Nat}{t:TypeId}{F G:Nat->Nat->Prop}{w w':World}{v:Value}{xs:List (List Value)}
theorem bL{k:Nat}{xs:List (List Value)}(a: ∀x∈xs,x.length=k):xs.flatten.length=xs.length*k:=by
 induction xs with
 |nil=>simp
 |cons y c b=>rw[List.flatten_cons,gk,b (fun z b=>a z (by simp[b])),a y (by simp),jj,lp];omega
theorem aH.nil(k:Nat)(t:TypeId)(w:World)(F:Nat->Nat->Prop):aH k t w (.slice none 0 0) [] F:=⟨none,0,rfl,b8 _,by simp[maxLen],fun x a=>by simp at a,.inl ⟨rfl,.inl rfl⟩⟩
theorem aH.mono(p:aH k t w v xs F)(g: ∀f o,F f o->G f o):aH k t w v xs G:=by
 obtain⟨A,n,d,b,c,e,a|⟨f,o,j,a,m,h,l,i⟩⟩:=p
 ·exact⟨A,n,d,b,c,e,.inl a⟩
 ·exact⟨A,n,d,b,c,e,.inr ⟨f,o,j,a,m,h,fun r q f=>g _ _ (l r q f),i⟩⟩
abbrev aH.m:=@aH.mono
theorem aH.only(B:aH k t w v xs F)(r:OnlyC G w w')(n: ∀h o,F h o-> ¬G h o):aH k t w' v xs F:=by
 obtain⟨A,y,g,a,e,c,b|⟨h,o,s,b,x,m,f,p⟩⟩:=B
 ·exact⟨A,y,g,a,e,c,.inl b⟩
 ·obtain⟨j,u,q,l⟩:=r.shape h s t _ x;refine⟨A,y,g,a,e,c,.inr ⟨h,o,j,b,u,by rw[q];exact m,f,fun z C d=>?_⟩⟩;have i:=(bd.1 d).1;rw[bL c]at i;have:xs.length*k<=y*k:=dy k a;rw[l (o+z) (n _ _ (f (o+z) (by omega) (by omega)))];exact p z C d
theorem aH.dR{S:Nat->Prop}(u:aH k t w v xs F)(n:0<k)(p:Only S w w')(l: ∀h o,F h o-> ¬S h):aH k t w' v xs F:=by
 obtain⟨A,i,d,b,c,e,a|⟨h,o,q,a,r,j,g,m⟩⟩:=u
 ·exact⟨A,i,d,b,c,e,.inl a⟩
 ·by_cases f:i=0
  ·exact⟨A,i,d,b,c,e,.inl ⟨f,.inr ⟨h,o,a⟩⟩⟩
  ·have s:0<i*k:=Nat.mul_pos (Nat.pos_of_ne_zero f) n;exact⟨A,i,d,b,c,e,.inr ⟨h,o,q,a,p.heap r (l h o (g o (b8 _) (by omega))),j,g,m⟩⟩
theorem aH.bound(p:aH k t w v xs F):aH k t w v xs (fun m o=>F m o/\m<w.heap.size):=by
 obtain⟨A,n,d,b,c,f,a|⟨m,o,i,a,e,g,j,h⟩⟩:=p
 ·exact⟨A,n,d,b,c,f,.inl a⟩
 ·exact⟨A,n,d,b,c,f,.inr ⟨m,o,i,a,e,g,fun q r l=>⟨j q r l,lt_of_heap e⟩,h⟩⟩
theorem aH.bO{base n:Nat}(p:w.ownsRow base t k v n xs.flatten)(b: ∀x∈xs,x.length=k)(i:0<k)(e: ∀g j,v.ownBlock=some g->F g j):aH k t w v xs F:=by
 have a:xs.length=n:=by have c:=p.1;rw[bL b]at c;exact Nat.eq_of_mul_eq_mul_right i c
 subst a;rcases p.2 with⟨rfl,m⟩|⟨g,q,d,rfl,_,o,f,l,s,h⟩
 ·have:xs=[]:=de m;subst this;exact aH.nil _ _ _ _
 ·refine⟨_,_,rfl,f,l,b,.inr ⟨g,0,d,rfl,o,by omega,fun j _ _=>e g j rfl,fun j u a=>?_⟩⟩;have r:j<xs.flatten.length:=(bd.1 a).1;rw[<-h]at a;rw[mu]at a;split at a
  ·rw[gR];simpa using a
  ·cases a
end
theorem ct{b:Nat}{t:TypeId}: ∀(d:List Value) (o:Nat) (w:World) (cs:Array Value),w.heap[b]?=some (.cells cs t (0,0))->o+d.length<=cs.size->
  ∃c,(w.setCells b o d).heap[b]?=some (.cells c t (0,0))/\c.size=cs.size/\(∀j,¬(o<=j/\j<o+d.length)->c[j]?=cs[j]?)/\ ∀j u,d[j]?=some u->c[o+j]?=some u
 |[],o,w,cs,h,_=>⟨cs,h,rfl,fun _ _=>rfl,fun j u a=>by simp at a⟩
 |v::d,o,w,cs,h,hl=>by
  have i:=dd w b o cs t v h;obtain⟨c,k,g,f,l⟩:=ct d (o+1) (w.setCell ⟨b,o,none⟩ v) (cs.setIfInBounds o v) i (by simp at hl⊢;omega);refine⟨c,k,by simpa using g,fun j a=>?_,fun j u a=>?_⟩
  ·rw[f j (by simp at a⊢;omega),gC,ff (by simp at a;omega)]
  ·cases j with
   |zero=>
    have e:v=u:=by simpa using a
    subst e;rw[mT,f o (by omega),gC,fi rfl,fi (by simp at hl;omega)]
   |succ j=>have:=l j u (by simpa using a);rw[show o+(j+1)=o+1+j by omega];exact this
theorem bQ(b:Nat): ∀(a:List Value) (o:Nat) (w:World),OnlyC (fun k j=>k=b/\o<=j/\j<o+a.length) w (w.setCells b o a)
 |[],o,w=>OnlyC.refl _ w
 |v::a,o,w=>by have f:=OnlyC.aR w b o v;have d:=bQ b a (o+1) (w.setCell ⟨b,o,none⟩ v);have c:OnlyC (fun k j=>k=b/\o<=j/\j<o+(v::a).length) w (w.setCell ⟨b,o,none⟩ v):=f.m (fun k j _ ⟨a,e⟩=>⟨a,by omega,by simp;omega⟩);exact c.x d (fun k j _ ⟨a,e,g⟩=>⟨a,by omega,by simp;omega⟩)
section
variable{k:Nat}{t:TypeId}{F G:Nat->Nat->Prop}{w w':World}{v:Value}{xs:List (List Value)}
theorem vU(c: ∀x∈xs,x.length=k): ∀(i:Nat) (x:List Value),xs[i]?=some x-> ∀(j:Nat) (u:Value),x[j]?=some u->xs.flatten[i*k+j]?=some u:=by
 induction xs with
 |nil=>intro i x a;simp at a
 |cons y b e=>
  intro i x a j u b;have d:=c y (by simp)
  cases i with
  |zero=>simp at a;subst a;rw[List.flatten_cons,kt (by have:=(List.getElem?_eq_some_iff.1 b).1;omega)];simpa using b
  |succ i=>have f:=e (fun z e=>c z (by simp[e])) i x (by simpa using a) j u b;rw[List.flatten_cons,kb (by rw[d,lp];omega)];rw[<-f];congr 1;rw[d,lp];omega
theorem aH.lies(p:aH k t w v xs F)(n:0<xs.length): ∃d o c a,v=.slice (some ⟨d,o,none⟩) xs.length c/\xs.length<=c/\c<=maxLen/\(∀x∈xs,x.length=k)/\w.heap[d]?=some (.cells a t (0,0))/\o+c*k<=a.size/\(∀j,o<=j->j<o+c*k->F d j)/\ ∀j u,xs.flatten[j]?=some u->a[o+j]?=some u:=by
 obtain⟨A,c,l,f,h,m,⟨b,_⟩|⟨d,o,a,b,j,e,i,g⟩⟩:=p
 ·omega
 ·subst b;exact⟨d,o,c,a,l,f,h,m,j,e,i,g⟩
theorem cell_of_heap{w:World}{b j:Nat}{cs:Array Value}{t:TypeId}{u:Value}(h:w.heap[b]?=some (.cells cs t (0,0)))(a:cs[j]?=some u):w.cell? ⟨b,j,none⟩=some u:=by simp[World.cell?,h,a]
theorem frozen_of_heap{w:World}{b:Nat}{cs:Array Value}{t:TypeId}(h:w.heap[b]?=some (.cells cs t (0,0)))(j:Nat):w.frozen? ⟨b,j,none⟩=false:=by simp[World.frozen?,h]
theorem aH.rewritten{b o n c:Nat}{cs a:Array Value}{ys:List (List Value)}(f:w'.heap[b]?=some (.cells a t (0,0)))(m:a.size=cs.size)(p:o+c*k<=cs.size)(i: ∀j,o<=j->j<o+c*k->F b j)
  (g:ys.length=n) (e:n<=c) (d:c<=maxLen) (l: ∀x∈ys,x.length=k) (h: ∀j u,ys.flatten[j]?=some u->a[o+j]?=some u):aH k t w' (.slice (some ⟨b,o,none⟩) n c) ys F:=by
 subst g;exact⟨_,c,rfl,e,d,l,.inr ⟨b,o,a,rfl,f,by omega,i,h⟩⟩
end
section
variable{P:Program}{k:Nat}{e:TypeId}{F G:Nat->Nat->Prop}
theorem dD(w:World){ops:Array Oper}{T:List Oper}{o:Oper}{a:Act}{Q:Exit->Act->World->Prop}
  (n:o.guard=none) (s x:Operand) (t:TypeId) (y:o.op=Op.call {callee:=Callee.builtin Builtin.append,args:= #[s,x],argTypes:= #[t,t]})
  (i:TypeInfo) (z:Value) (u:Nat) (r:P.underlying t=some (.slice e)) (q:P.info? e=some i) (V:i.zero=some z) (L:i.size=k) (X:i.bytes=u) (W:z.cells.size=k) (M:0<k)
  (v:Value) (xs:List (List Value)) (E:a.eval s=v) (hv:aH k e w v xs F)
  (l:Addr) (m c:Nat) (ys:List (List Value)) (C:a.eval x=.slice (some l) m c) (hm:ys.length=m) (ac: ∀d∈ys,d.length=k) (J: ∀p O,ys.flatten[p]?=some O->w.cell? (l.add p)=some O) (I: ∀O∈ys.flatten,O.oneCell'=true)
  (Z:xs.length+m<=maxLen) (b2:(xs.length+m)*u<=140737488355328)
  (h: ∀b w',aH k e w' b (xs++ys) (fun R o=>F R o\/w.heap.size<=R)->OnlyC F w w'->wpList P ops Q T (a.put o.dst b) w'):
  wpList P ops Q (o::T) a w:=by
 have a0:=hv;obtain⟨A,B,rfl,q2,q3,q4,q5⟩:=hv;have D:ys.flatten.length=m*k:=by rw[bL ac,hm]
 have am:xs.flatten.length=xs.length*k:=bL q4;have aa: ∀d∈xs++ys,d.length=k:=fun d f=>(dr.1 f).elim (q4 d) (ac d)
 have S: ∀b w',w'.ownsRow w.heap.size e k b (xs.length+m) (xs.flatten++ys.flatten)->w.grownBy w' none->wpList P ops Q T (a.put o.dst b) w':=by intro b w' j f;refine h b w' (aH.bO (n:=xs.length+m) (base:=w.heap.size) (by rw[lE];exact j) aa M (fun g p n=>.inr (j.lt g n).1)) (OnlyC.of_below ⟨f.os,f.tape,f.output,f.size,fun g d=>f.block g d (by simp)⟩ F)
 by_cases hr:xs.length+m<=B
 ·by_cases Nk:B=0
  · --nothing at all
   subst Nk;have U:xs=[]:=de (by omega);have d:ys=[]:=de (by omega);subst U d;subst hm;refine wpList_plain n fun K Y=>?_
   have H:(Builtin.append_ #[t,t] o.type #[.slice A ([]:List (List Value)).length 0,.slice (some l) ([]:List (List Value)).length c]).run P w=.ok (.slice A 0 0) w:=by
    have g:=run_firstCells_some (P:=P) w i.size 0 l 0 c [] (by simp) (fun p O d=>by simp at d)
    cases A with
    |none=>simp[Builtin.append_,run_underlying r,sizeOf,typeInfo,q,Builtin.lenOf,g]
    |some A0=>simp[Builtin.append_,run_underlying r,sizeOf,typeInfo,q,Builtin.lenOf,g,storeCells]
   unfold Oper.wp;simp only[execOp,y,resolve,invoke,builtin,Sem.run_bind,Sem.run_pure,Result.andThen_ok,List.map_toArray,lx,kh,E,C,H];exact Y _ _ (h _ w (a0.m (fun _ _ h=>.inl h)) (OnlyC.refl F w))
  ·obtain⟨h0,_⟩|⟨R,g,N,rfl,G,q7,q8,q9⟩:=q5
   ·exact absurd h0 Nk
   ·have ap:(xs.length+m)*k<=B*k:=dy k hr;rw[Nat.add_mul]at ap;have a':g+xs.length*k+ys.flatten.length<=N.size:=by rw[D];omega
    subst L;refine wpList_plain n fun K Y=>?_
    have H:=run_append_room_cells (P:=P) w t o.type e i r q R g xs.length B l m c ys.flatten D J I hr
     (fun p d=>by
      have K:g+xs.length*i.size+p<N.size:=by omega
      simp[World.cell?,G,gd K]) (fun p _=>frozen_of_heap G _)
    unfold Oper.wp;simp only[execOp,y,resolve,invoke,builtin,Sem.run_bind,Sem.run_pure,Result.andThen_ok,List.map_toArray,lx,kh,E,C,H];obtain⟨a1,k1,k2,k3,k4⟩:=ct ys.flatten (g+xs.length*i.size) w N G a';refine Y _ _ (h _ _ (aH.rewritten (ys:=xs++ys) k1 k2 q7 (fun p a R=>.inl (q8 p a R)) (by simp[hm]) hr q3 aa (fun p O d=>?_)) ((bQ R ys.flatten (g+xs.length*i.size) w).m (fun Y p _ ⟨e1,e2,K⟩=>?_)))
    ·rw[lE]at d;by_cases K:p<xs.flatten.length
     ·rw[kt K]at d;rw[k3 _ (by omega)];exact q9 p O d
     ·rw[kb (by omega)]at d;have:=k4 _ O d;rw[am]at this;rw[show g+p=g+xs.length*i.size+(p-xs.length*i.size) by omega];exact this
    ·subst e1;exact q8 p (by omega) (by omega)
 ·rcases q5 with⟨rfl,_⟩|⟨R,g,N,rfl,G,q7,q8,q9⟩
  ·have U:xs=[]:=de (by omega);subst U
   cases A with
   |some A0=>exact wpList_append_grows w n s x t y e i z k u r q V L X W M (some A0) 0 0 [] E (fun K=>by cases K) (by simp) (fun Y H p O d=>by simp at d) l m c ys.flatten C D J I (by omega) Z b2 (fun b w' j f=>S b w' j f)
   |none=>exact wpList_append_grows w n s x t y e i z k u r q V L X W M none 0 0 [] E (fun _=>⟨rfl,rfl⟩) (by simp) (fun R U=>by cases U) l m c ys.flatten C D J I (by omega) Z b2 (fun b w' j f=>S b w' j f)
  ·refine wpList_append_grows w n s x t y e i z k u r q V L X W M (some ⟨R,g,none⟩) xs.length B xs.flatten E (fun K=>by cases K) am (fun Y H p O d=>?_) l m c ys.flatten C D J I (by omega) Z b2 (fun b w' j f=>S b w' j f);injection H with H;subst H;rw[ie];exact cell_of_heap G (q9 p O d)
end
section
variable{P:Program}{k:Nat}{e:TypeId}{F:Nat->Nat->Prop}
theorem p6(w:World)(t p:TypeId)(i:TypeInfo)(z:Value)(s:Nat)(q:P.underlying t=some (.slice e))(o:P.info? e=some i)(K:i.zero=some z)(C:i.size=k)(M:i.bytes=s)(L:z.cells.size=k)(D:0<k)
  (v:Value) (xs:List (List Value)) (hv:aH k e w v xs F) (l:Addr) (m c:Nat) (ys:List (List Value)) (R:ys.length=m) (V: ∀a∈ys,a.length=k) (B: ∀n H,ys.flatten[n]?=some H->w.cell? (l.add n)=some H) (U: ∀H∈ys.flatten,H.oneCell'=true)
  (N:xs.length+m<=maxLen) (O:(xs.length+m)*s<=140737488355328):
  ∃b w',(Builtin.append_ #[t,t] p #[v,.slice (some l) m c]).run P w=.ok b w'/\aH k e w' b (xs++ys) (fun y f=>F y f\/w.heap.size<=y)/\OnlyC F w w':=by
 have am:=hv;obtain⟨A,u,rfl,q2,q3,Y,q5⟩:=hv;have x:ys.flatten.length=m*k:=by rw[bL V,R]
 have W:xs.flatten.length=xs.length*k:=bL Y;have T: ∀a∈xs++ys,a.length=k:=fun a d=>(dr.1 d).elim (Y a) (V a)
 have I: ∀b w',w'.ownsRow w.heap.size e k b (xs.length+m) (xs.flatten++ys.flatten)->w.grownBy w' none->aH k e w' b (xs++ys) (fun y f=>F y f\/w.heap.size<=y)/\OnlyC F w w':=fun b w' j f=>
  ⟨aH.bO (n:=xs.length+m) (base:=w.heap.size) (by rw[lE];exact j) T D (fun g n a=>.inr (j.lt g a).1),OnlyC.of_below ⟨f.os,f.tape,f.output,f.size,fun d a=>f.block d a (by simp)⟩ F⟩
 by_cases G:xs.length+m<=u
 ·by_cases Nk:u=0
  ·subst Nk;have J:xs=[]:=de (by omega);have a:ys=[]:=de (by omega);subst J a;subst R
   have g:(Builtin.append_ #[t,t] p #[.slice A ([]:List (List Value)).length 0,.slice (some l) ([]:List (List Value)).length c]).run P w=.ok (.slice A 0 0) w:=by
    have a:=run_firstCells_some (P:=P) w i.size 0 l 0 c [] (by simp) (fun n H d=>by simp at d)
    cases A with
    |none=>simp[Builtin.append_,run_underlying q,sizeOf,typeInfo,o,Builtin.lenOf,a]
    |some X=>simp[Builtin.append_,run_underlying q,sizeOf,typeInfo,o,Builtin.lenOf,a,storeCells]
   exact⟨_,w,g,am.m (fun _ _ h=>.inl h),OnlyC.refl F w⟩
  ·obtain⟨h0,_⟩|⟨y,h,E,rfl,r,Z,S,Q⟩:=q5
   ·exact absurd h0 Nk
   ·have aa:(xs.length+m)*k<=u*k:=dy k G;rw[Nat.add_mul]at aa;have ac:h+xs.length*k+ys.flatten.length<=E.size:=by rw[x];omega
    subst C
    have g:=run_append_room_cells (P:=P) w t p e i q o y h xs.length u l m c ys.flatten x B U G
     (fun n d=>by
      have a:h+xs.length*i.size+n<E.size:=by omega
      simp[World.cell?,r,gd a]) (fun n _=>frozen_of_heap r _)
    obtain⟨ap,k1,k2,k3,k4⟩:=ct ys.flatten (h+xs.length*i.size) w E r ac;refine⟨_,_,g,aH.rewritten (ys:=xs++ys) k1 k2 Z (fun n a y=>.inl (S n a y)) (by simp[R]) G q3 T (fun n H d=>?_),(bQ y ys.flatten (h+xs.length*i.size) w).m (fun b' n _ ⟨e1,e2,a⟩=>?_)⟩
    ·rw[lE]at d;by_cases a:n<xs.flatten.length
     ·rw[kt a]at d;rw[k3 _ (by omega)];exact Q n H d
     ·rw[kb (by omega)]at d;have:=k4 _ H d;rw[W]at this;rw[show h+n=h+xs.length*i.size+(n-xs.length*i.size) by omega];exact this
    ·subst e1;exact S n (by omega) (by omega)
 ·rcases q5 with⟨rfl,r⟩|⟨y,h,E,rfl,r,Z,S,Q⟩
  ·have J:xs=[]:=de (by omega);subst J
   cases A with
   |none=>obtain⟨b,w',g,j,f,_⟩:=run_append_own (P:=P) w w.heap.size t p e i z k s q o K C M L D (.slice none 0 0) 0 [] (ea w _ e k) l m c ys.flatten x B U N O (b8 _);exact⟨b,w',g,I b w' j f⟩
   |some X=>obtain⟨b,w',g,j,f⟩:=run_append_arg_grows (P:=P) w t p e i z k s q o K C M L D X 0 0 [] (by simp) (fun n H d=>by simp at d) l m c ys.flatten x B (by have:=G;simp only[nF]at this;omega) N O;exact⟨b,w',g,I b w' j f⟩
  ·obtain⟨b,w',g,j,f⟩:=run_append_arg_grows (P:=P) w t p e i z k s q o K C M L D ⟨y,h,none⟩ xs.length u xs.flatten W (fun n H d=>by rw[ie];exact cell_of_heap r (Q n H d)) l m c ys.flatten x B (by omega) N O;exact⟨b,w',g,I b w' j f⟩
theorem vV{G:Nat->Nat->Prop}(w:World)(t j:TypeId)(i:TypeInfo)(M:Value)(a:Nat)(f:P.underlying t=some (.slice e))(c:P.info? e=some i)(A:i.zero=some M)(E:i.size=k)(D:i.bytes=a)(C:M.cells.size=k)(s:0<k)
  (v:Value) (xs:List (List Value)) (d:aH k e w v xs F) (o:Value) (ys:List (List Value)) (B:aH k e w o ys G) (r: ∀L∈ys.flatten,L.oneCell'=true) (I:xs.length+ys.length<=maxLen) (J:(xs.length+ys.length)*a<=140737488355328):
  ∃b w',(Builtin.append_ #[t,t] j #[v,o]).run P w=.ok b w'/\aH k e w' b (xs++ys) (fun p K=>F p K\/w.heap.size<=p)/\OnlyC F w w':=by
 obtain⟨u,g,rfl,O,Q,H,l⟩:=B
 cases u with
 |none=>
  have N:g=0:=by
   rcases l with⟨h,_⟩|⟨p,K,m,h,_⟩
   ·exact h
   ·cases h
  have b:ys=[]:=de (by omega);subst b;obtain⟨T,z,rfl,y,S,R,x⟩:=id d;refine⟨_,w,?_,by simpa using d.m (fun _ _ h=>.inl h),OnlyC.refl F w⟩
  cases T with
  |none=>
   have q:z=0:=by
    rcases x with⟨h,_⟩|⟨p,K,m,h,_⟩
    ·exact h
    ·cases h
   have n:xs=[]:=de (by omega);subst n q;simp[Builtin.append_,run_underlying f,sizeOf,typeInfo,c,Builtin.lenOf,Builtin.firstCells]
  |some n=>simp[Builtin.append_,run_underlying f,sizeOf,typeInfo,c,Builtin.lenOf,Builtin.firstCells,y,storeCells]
 |some n=>
  refine p6 w t j i M a f c A E D C s v xs d n ys.length g ys rfl H (fun N L n=>?_) r I J;rcases l with⟨h,_⟩|⟨p,K,m,h,q,y,z,x⟩
  ·have b:ys=[]:=de (by omega);subst b;simp at n
  ·injection h with h;subst h;rw[ie];exact cell_of_heap q (x N L n)
theorem gK{G:Nat->Nat->Prop}{ops:Array Oper}{o:Oper}{a:Act}{K:Act->World->Prop}{Q:Exit->Act->World->Prop}{L:Prop}(w:World)(g:o.guard=none)(s x:Operand)(t:TypeId)
  (r:o.op=.call {callee:=.builtin .append,args:= #[s,x],argTypes:= #[t,t]})
  (i:TypeInfo) (J:Value) (c:Nat) (D:P.underlying t=some (.slice e)) (m:P.info? e=some i) (u:i.zero=some J) (I:i.size=k) (E:i.bytes=c) (C:J.cells.size=k) (l:0<k)
  (v:Value) (xs:List (List Value)) (H:a.eval s=v) (p:aH k e w v xs F) (d:Value) (ys:List (List Value)) (y:a.eval x=d) (n:aH k e w d ys G) (h: ∀b∈ys.flatten,b.oneCell'=true)
  (z:xs.length+ys.length<=maxLen) (B:(xs.length+ys.length)*c<=140737488355328)
  (M: ∀b w',aH k e w' b (xs++ys) (fun f o=>F f o\/w.heap.size<=f)->OnlyC F w w'->K (a.put o.dst b) w'):
  if Region.wanted o (yielded ops a.tmps)=true then Oper.wp P o a w K Q else L:=by
 have q:Region.wanted o (yielded ops a.tmps)=true:=by simp[Region.wanted,g]
 rw[fi q];obtain⟨b,w',f,A,j⟩:=vV w t o.type i J c D m u I E C l v xs p d ys n h z B;unfold Oper.wp execOp;simp only[r,resolve,invoke,builtin,Sem.run_bind,Sem.run_pure,Result.andThen_ok,List.map_toArray,lx,kh,H,y,f];exact M b w' A j
theorem cP{ops:Array Oper}{o:Oper}{a:Act}{N:Act->World->Prop}{R:Exit->Act->World->Prop}{O:Prop}(w:World)(j:o.guard=none)(s x:Operand)(t:TypeId)
  (H:o.op=.call {callee:=.builtin .append,args:= #[s,x],argTypes:= #[t,t]})
  (i:TypeInfo) (M:Value) (d:Nat) (L:P.underlying t=some (.slice e)) (q:P.info? e=some i) (u:i.zero=some M) (D:i.size=k) (C:i.bytes=d) (B:M.cells.size=k) (p:0<k)
  (v:Value) (xs:List (List Value)) (J:a.eval s=v) (r:aH k e w v xs F) (f:Addr) (m c:Nat) (ys:List (List Value)) (y:a.eval x=.slice (some f) m c) (E:ys.length=m) (h: ∀b∈ys,b.length=k) (z: ∀g b,ys.flatten[g]?=some b->w.cell? (f.add g)=some b) (l: ∀b∈ys.flatten,b.oneCell'=true)
  (I:xs.length+m<=maxLen) (K:(xs.length+m)*d<=140737488355328)
  (Q: ∀b w',aH k e w' b (xs++ys) (fun g o=>F g o\/w.heap.size<=g)->OnlyC F w w'->N (a.put o.dst b) w'):
  if Region.wanted o (yielded ops a.tmps)=true then Oper.wp P o a w N R else O:=by
 have G:Region.wanted o (yielded ops a.tmps)=true:=by simp[Region.wanted,j]
 rw[fi G];obtain⟨b,w',g,A,n⟩:=p6 w t o.type i M d L q u D C B p v xs r f m c ys E h z l I K;unfold Oper.wp execOp;simp only[H,resolve,invoke,builtin,Sem.run_bind,Sem.run_pure,Result.andThen_ok,List.map_toArray,lx,kh,J,y,g];exact Q b w' A n
end
theorem below_drewN{B:Nat}{w w':World}(h:Below B w w')(n:Nat):Below B w (w'.drewN n):=⟨h.os,h.tape,h.output,h.size,h.block⟩
def eD(p:Prop)(w:World)(e:Ending)(w':World):Prop:= ∃b:Bool,(b=true↔p)/\e=.returned (.bool b)/\Below w.heap.size w w'
theorem eD.yes{p:Prop}{w w':World}(h:p)(a:Below w.heap.size w w'):eD p w (.returned (.bool true)) w':=⟨true,by simp[h],rfl,a⟩
theorem eD.no{p:Prop}{w w':World}(h: ¬p)(a:Below w.heap.size w w'):eD p w (.returned (.bool false)) w':=⟨false,by simp[h],rfl,a⟩
abbrev oS:=@Only.of_below
abbrev oT:=@Only.refl
abbrev o0:=@OnlyC.of_below
abbrev pb:=@lt_of_heap
abbrev ph:=@cell_of_heap
theorem qS{w w':World}{k:Nat}{o:Obj}(h:Below w.heap.size w w')(c:w.heap[k]? =some o):w'.heap[k]? =some o:=(Only.of_below h (fun _=>False)).heap c (fun h=>h)
theorem ri{w w':World}(h:Below w.heap.size w w'):Only (fun _=>False) w w':=Only.of_below h _
theorem rk(w:World)(o:Obj):Below w.heap.size w (w.alloc o)/\(w.alloc o).heap[w.heap.size]? =some o:=⟨(Below.refl _ _).alloc (Nat.le_refl _) _,heap_alloc_new w o⟩
theorem rl{α:Type}(a:α): ∃b,a=b:=⟨a,rfl⟩
theorem rm{α:Type}(a:α): ∃b,b=a:=⟨a,rfl⟩
theorem rj{w w':World}(h:Below w.heap.size w w'):OnlyC (fun _ _=>False) w w':=OnlyC.of_below h _
end Go.Proofs.YtehccbdajiiaaaaGreatDoor
