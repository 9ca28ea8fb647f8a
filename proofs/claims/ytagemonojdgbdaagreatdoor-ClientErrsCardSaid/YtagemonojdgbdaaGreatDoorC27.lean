import Derived.Test.YtagemonojdgbdaaGreatDoorC06
import Derived.Test.YtagemonojdgbdaaGreatDoorC22
import Derived.Laws.BitsAllLaws
import Derived.Laws.BitsLemmas
import Derived.Lib.AppendStr
namespace Go.Proofs.YtagemonojdgbdaaGreatDoor
set_option maxRecDepth 100000
open Go.RowKit
def WrAt (w : World) (F : Nat → Prop) (b : Nat) (bs : List UInt8) : Prop :=
 ∃ v, w.heap[b]? = some (.cells #[v] 188 (0, 0)) ∧ F b ∧ w.ownsRow 0 5 1 v bs.length (bs.map B8) ∧ (∀ g, v.ownBlock = some g → F g)
theorem only_ag {wr w1 : World} {row : Option Nat} {o1 : Obj} (hgrow : (wr.alloc o1).grownBy w1 row) : Only (fun k => row = some k) wr w1 :=
 ((Only.refl _ wr).alloc o1).grown hgrow (fun _ hk _ => hk)
theorem wr_step {wr w1 : World} {F' : Nat → Prop} {b L m c cap : Nat} {A A' : Option Addr} {cur news : List UInt8} (hblk : wr.heap[b]? = some (.cells #[.slice A L c] 188 (0, 0)))
  (hn : cur.length = L) (hm : news.length = m) (hne : (Value.slice A L c).ownBlock ≠ some b) (hFv : ∀ g, (Value.slice A L c).ownBlock = some g → F' g) (hFb : F' b)
  (hown1 : w1.ownsRow 0 5 1 (.slice A' (L + m) cap) (L + m) (cur.map B8 ++ news.map B8)) (hgrow : Only (fun k => (Value.slice A L c).ownBlock = some k) wr w1)
  (hat : ∀ g, (Value.slice A' (L + m) cap).ownBlock = some g → (Value.slice A L c).ownBlock = some g ∨ wr.heap.size ≤ g) :
  WrAt (w1.setCell ⟨b, 0, none⟩ (.slice A' (L + m) cap)) (fun k => F' k ∨ wr.heap.size ≤ k) b (cur ++ news) ∧ Only F' wr (w1.setCell ⟨b, 0, none⟩ (.slice A' (L + m) cap)) := by
 have hb1 := hgrow.heap hblk hne
 refine ⟨⟨.slice A' (L + m) cap, ?_, .inl hFb, ?_, ?_⟩, ?_⟩
 ·simp [World.setCell, Array.getElem?_modify, hb1]
 ·have h := own_only hown1 (Only.set1 w1 b 0 (.slice A' (L + m) cap)) (fun k hk e => by subst e; exact own_blk_ne hown1 hb1 (by decide) hk)
  subst hn hm
  simpa using h
 ·intro k hk
  rcases hat k hk with h | h
  ·exact .inl (hFv _ h)
  ·exact .inr h
 ·exact (hgrow.mono (fun k _ h => hFv k h)).setCell (p := ⟨b, 0, none⟩) (fun _ => hFb) _
set_option maxHeartbeats 1000000 in
theorem groups_ok (w : World) (F : Nat → Prop) (b : Nat) (bs : List UInt8) (h : WrAt w F b bs) (n : Nat) (hn : n < 18446744073709551616) (hlen : bs.length ≤ 1000000000) :
  Calls Tryz.prog 123 #[.pointer (some ⟨b, 0, none⟩), .int .u64 n] w fun e w' => e = .returned (.tuple #[]) ∧ Only F w w' ∧ ∃ F', WrAt w' F' b (bs ++ leb n) ∧ ∀ k, F' k → F k ∨ w.heap.size ≤ k := by
 obtain ⟨i0, hi, hz0, hz1, hz2⟩ := info_parts Tryz.info5
 have HN := Lib.hid hn
 clear hn
 go_enter Tryz.func123, Tryz.ntmps123
 go_wp2_with fail
 go_loopw [1] (fun v wr => ∃ (m : Nat) (pre : List UInt8) (F' : Nat → Prop), v = .int .u64 m ∧ m ≤ n ∧ leb n = pre ++ leb m ∧ pre.length ≤ 9 ∧ WrAt wr F' b (bs ++ pre) ∧ Only F w wr ∧ ∀ k, F' k → F k ∨ w.heap.size ≤ k)
   (fun v _ => (intOf v).toNat)
 case atStart => exact ⟨n, [], F, rfl, Nat.le_refl _, rfl, by simp, by simpa using h, Only.refl _ _, fun k hk => .inl hk⟩
 case round =>
  obtain ⟨m, pre, F', rfl, hm, hl, hpl, hwr, ho, hF'⟩ := hrel
  obtain ⟨v, hblk, hFb, hown, hFv⟩ := hwr
  have hL : (bs ++ pre).length ≤ 1000000009 := by simp; omega
  have HB := Lib.hid (And.intro hl (And.intro hFv (And.intro hFb hF')))
  generalize hcur : bs ++ pre = cur at *
  have HCUR := Lib.hid hcur
  clear hcur
  generalize hn : cur.length = L at *
  have HLn := Lib.hid hn
  obtain ⟨A, c, rfl⟩ := ownsRow_slice hown
  have hne : (Value.slice A L c).ownBlock ≠ some b := own_blk_ne hown hblk (by decide)
  have hc := blk_cell hblk
  have hf := blk_frozen hblk
  have hbs := (Array.getElem?_eq_some_iff.1 hblk).1
  have HW := Lib.hid (And.intro hblk (And.intro hown hne))
  clear hl hF' hFb hFv hn hblk hown hne
  by_cases hge : 128 ≤ m
  ·have hm64 : m < 18446744073709551616 := Nat.lt_of_le_of_lt hm HN.out
   obtain ⟨d, hd⟩ : ∃ d, m % 128 = d := ⟨_, rfl⟩
   have hd2 : d < 128 := by omega
   have e1 : bits .and .u64 (m : Int) 127 = (d : Int) := by
    have := u64_and_nat m 127 hm64 (by decide)
    rw [show ((127 : Nat) : Int) = 127 from rfl] at this
    rw [this, ← hd]
    congr 1
    exact Nat.and_two_pow_sub_one_eq_mod m 7
   have e2 : (d : Int) % 256 = (d : Int) := by omega
   have e3 : bits .or .u8 (d : Int) 128 = ((UInt8.ofNat (d + 128)).toNat : Int) := by
    have := u8_or_nat d 128 (by omega) (by decide)
    rw [show ((128 : Nat) : Int) = 128 from rfl] at this
    rw [this, Nat.or_comm, nat_join 7 128 d (by decide) (by omega)]
    simp; omega
   have hy : leb m = UInt8.ofNat (d + 128) :: leb (m / 128) := by rw [leb_ge hge hm64, hd]
   generalize UInt8.ofNat (d + 128) = y at *
   have HD := Lib.hid hy
   clear hd hm64 hy
   have c1 : L + 1 ≤ maxLen := by simp only [maxLen]; omega
   have c2 : (L + 1) * 1 ≤ 140737488355328 := by omega
   have hown2 := HW.out.2.1.alloc (.cells #[B8 y] 5)
   have HC := Lib.hid (And.intro c1 (And.intro c2 hown2))
   clear c1 c2 hown2
   go_wp2_with (at_builtin; refine wpList_append_lies _ rfl _ _ 118 rfl 0 5 i0 (.int .u8 0) 1 1 Tryz.underlying118 hi hz0 hz1 hz2 rfl (by decide) (.slice A L c) L (cur.map B8) rfl HC.out.2.2 ⟨wr.heap.size, 0, none⟩ 1 1 [B8 y] rfl rfl (cell_one_new _ _ _) (by simp [B8, Value.oneCell']) (by decide) HC.out.1 HC.out.2.1 (Nat.zero_le _) (wr.heap.size + 1) (by simp) ?_; intro g cap w1 hown1 hgrow hat hlt; have HB1 := Lib.hid ((only_ag hgrow).heap HW.out.1 HW.out.2.2); have hc1 := blk_cell HB1.out; have hf1 := blk_frozen HB1.out)
   go_roundw
   case rel =>
    obtain ⟨hw2, ho2⟩ := wr_step (m := 1) (news := [y]) HW.out.1 HLn.out rfl HW.out.2.2 HB.out.2.1 HB.out.2.2.1 hown1 (only_ag hgrow) (fun k hk => by injection hk with hk; subst hk; exact hat.imp_right (fun h => by show wr.heap.size ≤ g; omega))
    have hl2 : leb n = (pre ++ [y]) ++ leb (m / 128) := by rw [HB.out.1, HD.out]; simp
    refine ⟨m / 128, pre ++ [y], fun k => F' k ∨ wr.heap.size ≤ k, by simp, by omega, hl2, ?_, ?_, ho.trans ho2 (fun i hi h => ?_), fun k hk => ?_⟩
    ·have h1 := leb_length n
     have h2 := leb_pos (m / 128)
     rw [hl2] at h1
     simp at h1 ⊢
     omega
    ·rw [← List.append_assoc, HCUR.out]; exact hw2
    ·rcases HB.out.2.2.2 i h with h | h
     ·exact h
     ·omega
    ·rcases hk with h | h
     ·exact HB.out.2.2.2 k h
     ·exact .inr (by have := ho.size; omega)
   case measure => simp [intOf]; omega
  ·have hlt : m < 128 := by omega
   have hy : leb m = [UInt8.ofNat m] := leb_lt hlt
   have e1 : Value.int .u8 (m : Int) = B8 (UInt8.ofNat m) := by simp [B8]; omega
   have E1 := Lib.hid e1
   clear e1
   generalize UInt8.ofNat m = y at E1 hy
   have c1 : L + 1 ≤ maxLen := by simp only [maxLen]; omega
   have c2 : (L + 1) * 1 ≤ 140737488355328 := by omega
   have hown2 := HW.out.2.1.alloc (.cells #[.int .u8 (m : Int)] 5)
   have HC := Lib.hid (And.intro c1 (And.intro c2 hown2))
   have HD := Lib.hid hy
   clear c1 c2 hown2 hy
   go_wp2_with (at_builtin; refine wpList_append_lies _ rfl _ _ 118 rfl 0 5 i0 (.int .u8 0) 1 1 Tryz.underlying118 hi hz0 hz1 hz2 rfl (by decide) (.slice A L c) L (cur.map B8) rfl HC.out.2.2 ⟨wr.heap.size, 0, none⟩ 1 1 [.int .u8 (m : Int)] rfl rfl (cell_one_new _ _ _) (by simp [Value.oneCell']) (by decide) HC.out.1 HC.out.2.1 (Nat.zero_le _) (wr.heap.size + 1) (by simp) ?_; intro g cap w1 hown1 hgrow hat hlt; have HB1 := Lib.hid ((only_ag hgrow).heap HW.out.1 HW.out.2.2); have hc1 := blk_cell HB1.out; have hf1 := blk_frozen HB1.out)
   go_end0
   rw [E1.out] at hown1
   obtain ⟨hw2, ho2⟩ := wr_step (m := 1) (news := [y]) HW.out.1 HLn.out rfl HW.out.2.2 HB.out.2.1 HB.out.2.2.1 hown1 (only_ag hgrow) (fun k hk => by injection hk with hk; subst hk; exact hat.imp_right (fun h => by show wr.heap.size ≤ g; omega))
   refine ⟨rfl, ho.trans ho2 (fun i hi h => ?_), fun k => F' k ∨ wr.heap.size ≤ k, ?_, fun k hk => ?_⟩
   ·rcases HB.out.2.2.2 i h with h | h
    ·exact h
    ·omega
   ·rw [HB.out.1, HD.out, ← List.append_assoc, HCUR.out]; exact hw2
   ·rcases hk with h | h
    ·exact HB.out.2.2.2 k h
    ·exact .inr (by have := ho.size; omega)
theorem wpList_append_str_at {P : Program} (w : World) {ops : Array Oper} {rest : List Oper} {o : Oper} {a : Act} {Q : Exit → Act → World → Prop} (hgd : o.guard = none) (sl x : Operand) (t u : TypeId)
  (ho : o.op = .call { callee := .builtin .append, args := #[sl, x], argTypes := #[t, u] })
  (base : Nat) (e : TypeId) (i : TypeInfo) (ht : P.underlying t = some (.slice e)) (hu : P.underlying u = some .string) (hi : P.info? e = some i) (hz : i.zero = some (.int .u8 0))
  (hsize : i.size = 1) (hby : i.bytes = 1)
  (v : Value) (n : Nat) (xs : List Value) (hs : a.eval sl = v) (hown : w.ownsRow base e 1 v n xs) (s : ByteArray) (hx : a.eval x = .string s)
  (h63 : n + s.size ≤ maxLen) (hbytes : n + s.size ≤ 140737488355328) (hbase : base ≤ w.heap.size)
  (h : ∀ A' c' w', w'.ownsRow base e 1 (.slice A' (n + s.size) c') (n + s.size) (xs ++ s.data.toList.map B8) → w.grownBy w' v.ownBlock → ((Value.slice A' (n + s.size) c').ownBlock = v.ownBlock ∨ (Value.slice A' (n + s.size) c').ownBlock = some w.heap.size) → wpList P ops Q rest (a.put o.dst (.slice A' (n + s.size) c')) w') : wpList P ops Q (o :: rest) a w := by
 refine wpList_plain hgd fun K hK => ?_
 obtain ⟨v', w', hr, h2, h3, h4⟩ := Lib.run_append_own_string (P := P) w base t u o.type e i ht hu hi hz hsize hby v n xs hown s h63 hbytes hbase
 have hat : v'.ownBlock = v.ownBlock ∨ v'.ownBlock = some w.heap.size := by
  have hsmall : n + s.size ≤ 9223372036854775807 := by simp only [maxLen] at h63; omega
  rcases hown.2 with ⟨rfl, rfl⟩ | ⟨g, cap, cur, rfl, hbg, hg, hnc, hcm, hcs, htake⟩
  ·by_cases hm : s.size = 0
   ·left; rw [h4.2 ⟨rfl, hm⟩]
   ·right
    have hr' := run_append_nil_string (P := P) w t u o.type e i (.int .u8 0) ht hu hi hz s (by omega) (by omega) (by rw [hby]; omega)
    rw [hr] at hr'
    injection hr' with e1 _
    rw [e1]; rfl
  ·by_cases hroom : n + s.size ≤ cap
   ·left
    have hcs' : cur.size = cap := by simpa using hcs
    have hr' := Lib.run_append_room_string (P := P) w t u o.type e i ht hu hi hsize g n cap cur hg s hroom (by omega)
    rw [hr] at hr'
    injection hr' with e1 _
    rw [e1]; rfl
   ·right
    have holds : ∀ j u, xs[j]? = some u → w.cell? ((⟨g, 0, none⟩ : Addr).add j) = some u := hown.cells (g := g) rfl
    have hxl : xs.length = n := by simpa using hown.1
    have hr' := Lib.run_append_grow_string (P := P) w t u o.type e i (.int .u8 0) ht hu hi hz ⟨g, 0, none⟩ n cap xs (by rw [hsize]; simpa using hxl) holds s (by omega) (by omega) (by rw [hby]; exact growslice_fits (by omega) (by omega))
    rw [hr] at hr'
    injection hr' with e1 _
    rw [e1]; rfl
 obtain ⟨A', c', rfl⟩ := ownsRow_slice h2
 unfold Oper.wp execOp
 simp only [ho, resolve, invoke, builtin, Sem.run_bind, Sem.run_pure, Result.andThen_ok, List.map_toArray, List.map_cons, List.map_nil, hs, hx, hr]
 exact hK _ _ (h A' c' w' h2 h3 hat)
def WroteP (r : Int) (F : Nat → Prop) (b : Nat) (bs : List UInt8) (w : World) (e : Ending) (w' : World) : Prop :=
 e = .returned (.int .i64 r) ∧ Only F w w' ∧ ∃ F', WrAt w' F' b bs ∧ ∀ k, F' k → F k ∨ w.heap.size ≤ k
theorem uint_ok (w : World) (F : Nat → Prop) (b : Nat) (bs : List UInt8) (h : WrAt w F b bs) (n : Nat) (hn : n < 9223372036854775808) (hlen : bs.length ≤ 1000000000) :
  Calls Tryz.prog 78 #[.pointer (some ⟨b, 0, none⟩), .int .i64 n] w (WroteP 0 F b (bs ++ leb n) w) := by
 have H := Lib.hid h
 have HN := Lib.hid hn
 clear h
 have hn' : n ≤ 9223372036854775807 := by omega
 clear hn
 go_enter Tryz.func78, Tryz.ntmps78
 go_wp2_with fail
 refine (groups_ok w F b bs H.out n (by have := HN.out; omega) hlen).mono ?_
 rintro e w1 ⟨rfl, ho, F', hw, hF'⟩
 go_wp2_with fail
 go_ret
 exact ⟨rfl, ho, F', hw, hF'⟩
theorem text_ok (w : World) (F : Nat → Prop) (b : Nat) (bs : List UInt8) (h : WrAt w F b bs) (s : ByteArray) (hs : s.size ≤ 65536) (hlen : bs.length ≤ 1000000000) :
  Calls Tryz.prog 80 #[.pointer (some ⟨b, 0, none⟩), .string s] w (WroteP 0 F b (bs ++ (leb s.size ++ s.data.toList)) w) := by
 obtain ⟨i0, hi, hz0, hz1, hz2⟩ := info_parts Tryz.info5
 have H := Lib.hid h
 clear h
 go_enter Tryz.func80, Tryz.ntmps80
 go_wp2_with fail
 refine (groups_ok w F b bs H.out s.size (by omega) hlen).mono ?_
 rintro e w1 ⟨rfl, ho, F', hw, hF'⟩
 obtain ⟨v, hblk, hFb, hown, hFv⟩ := hw
 have hL : (bs ++ leb s.size).length ≤ 1000000010 := by have := leb_length s.size; simp; omega
 have hass : bs ++ (leb s.size ++ s.data.toList) = (bs ++ leb s.size) ++ s.data.toList := by simp
 have HB := Lib.hid (And.intro hFv (And.intro hFb hF'))
 generalize bs ++ leb s.size = cur at *
 have HASS := Lib.hid hass
 generalize hn : cur.length = L at *
 have HLn := Lib.hid hn
 obtain ⟨A, c, rfl⟩ := ownsRow_slice hown
 have hne : (Value.slice A L c).ownBlock ≠ some b := own_blk_ne hown hblk (by decide)
 have hc := blk_cell hblk
 have hf := blk_frozen hblk
 have c1 : L + s.size ≤ maxLen := by simp only [maxLen]; omega
 have c2 : L + s.size ≤ 140737488355328 := by omega
 have HW := Lib.hid (And.intro hblk (And.intro hown (And.intro hne (And.intro c1 c2))))
 clear hF' hFb hFv hn hblk hown hne hass c1 c2
 go_wp2_with (at_builtin; refine wpList_append_str_at _ rfl _ _ 118 9 rfl 0 5 i0 Tryz.underlying118 Tryz.underlying9 hi hz0 hz1 hz2 (.slice A L c) L (cur.map B8) rfl HW.out.2.1 s rfl HW.out.2.2.2.1 HW.out.2.2.2.2 (Nat.zero_le _) ?_; intro A' c' w2 hown2 hgrow hat; have HB1 := Lib.hid ((Only.of_grownBy hgrow).heap HW.out.1 HW.out.2.2.1); have hc1 := blk_cell HB1.out; have hf1 := blk_frozen HB1.out)
 go_ret
 obtain ⟨hw2, ho2⟩ := wr_step (m := s.size) (news := s.data.toList) HW.out.1 HLn.out (by simp) HW.out.2.2.1 HB.out.1 HB.out.2.1 hown2 (Only.of_grownBy hgrow) (fun k hk => by
  have hk' : (Value.slice A' (L + s.size) c').ownBlock = some k := hk
  rcases hat with h | h
  ·exact .inl (h.symm.trans hk')
  ·rw [hk'] at h; injection h with h; exact .inr (by omega))
 refine ⟨rfl, ho.trans ho2 (fun i hi h => ?_), fun k => F' k ∨ w1.heap.size ≤ k, by rw [HASS.out]; exact hw2, fun k hk => ?_⟩
 ·rcases HB.out.2.2 i h with h | h
  ·exact h
  ·omega
 ·rcases hk with h | h
  ·exact HB.out.2.2 k h
  ·exact .inr (by have := ho.size; omega)
theorem wbytes_ok (w : World) (F : Nat → Prop) (b : Nat) (bs : List UInt8) (h : WrAt w F b bs) (hlen : bs.length ≤ 1000000000) :
  Calls Tryz.prog 82 #[.pointer (some ⟨b, 0, none⟩)] w (Fresh 5 (bs.map B8) w) := by
 obtain ⟨v, hblk, _, hown, _⟩ := h
 obtain ⟨A, c, rfl⟩ := ownsRow_slice hown
 have hc := blk_cell hblk
 have HR := Lib.hid (Rd.of_own (F := fun _ => True) hown (fun _ _ => trivial))
 clear hblk hown
 go_enter Tryz.func82, Tryz.ntmps82
 go_wp2_with fail
 refine (clone_bytes _ _ _ _ HR.out (B8_one bs) (by simp; omega)).mono ?_
 rintro e w1 ⟨Ax, cx, rfl, hx, hbl⟩
 have HX := Lib.hid (And.intro hx hbl)
 clear hx hbl
 go_wp2_with fail
 go_ret
 exact ⟨Ax, cx, by simp, HX.out.1, HX.out.2⟩

end Go.Proofs.YtagemonojdgbdaaGreatDoor
