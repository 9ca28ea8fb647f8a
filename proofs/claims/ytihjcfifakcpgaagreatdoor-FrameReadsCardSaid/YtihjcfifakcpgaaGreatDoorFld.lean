/- The writer in memory ('WrAt'): groups, Uint, Text, Bytes. -/
import Derived.Test.YtihjcfifakcpgaaGreatDoorBse
import Derived.Test.YtihjcfifakcpgaaGreatDoorPla
import Derived.Laws.BitsAllLaws
import Derived.Laws.BitsLemmas
import Derived.Lib.AppendStr
import Derived.Lib.BufferRead
import Derived.WalkSmall
namespace Go.Proofs.YtihjcfifakcpgaaGreatDoor
set_option maxRecDepth 100000
open Go.RowKit

/-- A writer in memory. -/
def WrAt (w : World) (F : Nat → Prop) (b : Nat) (bs : List UInt8) : Prop :=
  ∃ v, w.heap[b]? = some (.cells #[v] 77 (0, 0)) ∧ F b ∧ w.ownsRow 0 5 1 v bs.length (bs.map B8) ∧ (∀ g, v.ownBlock = some g → F g)

theorem only_ag {wr w1 : World} {row : Option Nat} {o1 : Obj} (hgrow : (wr.alloc o1).grownBy w1 row) : Only (fun k => row = some k) wr w1 :=
  ((Only.refl _ wr).alloc o1).grown hgrow (fun _ hk _ => hk)

theorem wr_step {wr w1 : World} {F' : Nat → Prop} {b L m c cap : Nat} {A A' : Option Addr} {cur news : List UInt8} (hblk : wr.heap[b]? = some (.cells #[.slice A L c] 77 (0, 0)))
    (hn : cur.length = L) (hm : news.length = m) (hne : (Value.slice A L c).ownBlock ≠ some b) (hFv : ∀ g, (Value.slice A L c).ownBlock = some g → F' g) (hFb : F' b)
    (hown1 : w1.ownsRow 0 5 1 (.slice A' (L + m) cap) (L + m) (cur.map B8 ++ news.map B8)) (hgrow : Only (fun k => (Value.slice A L c).ownBlock = some k) wr w1)
    (hat : ∀ g, (Value.slice A' (L + m) cap).ownBlock = some g → (Value.slice A L c).ownBlock = some g ∨ wr.heap.size ≤ g) :
    WrAt (w1.setCell ⟨b, 0, none⟩ (.slice A' (L + m) cap)) (fun k => F' k ∨ wr.heap.size ≤ k) b (cur ++ news) ∧ Only F' wr (w1.setCell ⟨b, 0, none⟩ (.slice A' (L + m) cap)) := by
  have hb1 := hgrow.heap hblk hne
  refine ⟨⟨.slice A' (L + m) cap, ?_, .inl hFb, ?_, ?_⟩, ?_⟩
  · simp [World.setCell, Array.getElem?_modify, hb1]
  · have h := own_only hown1 (Only.set1 w1 b 0 (.slice A' (L + m) cap)) (fun k hk e => by subst e; exact own_blk_ne hown1 hb1 (by decide) hk)
    subst hn hm
    simpa using h
  · intro k hk
    rcases hat k hk with h | h
    · exact .inl (hFv _ h)
    · exact .inr h
  · exact (hgrow.mono (fun k _ h => hFv k h)).setCell (p := ⟨b, 0, none⟩) (fun _ => hFb) _

set_option maxRecDepth 100000 in
set_option maxHeartbeats 1000000 in
theorem groups_ok (w : World) (F : Nat → Prop) (b : Nat) (bs : List UInt8) (h : WrAt w F b bs) (n : Nat) (hn : n < 18446744073709551616) (hlen : bs.length ≤ 1000000000) :
    Calls Tryz.prog 69 #[.pointer (some ⟨b, 0, none⟩), .int .u64 n] w fun e w' => e = .returned (.tuple #[]) ∧ Only F w w' ∧ ∃ F', WrAt w' F' b (bs ++ leb n) ∧ ∀ k, F' k → F k ∨ w.heap.size ≤ k := by
  obtain ⟨i0, hi, hz0, hz1, hz2⟩ := info_parts Tryz.info5
  have HN := Lib.hid hn
  clear hn
  go_enter Tryz.func69, Tryz.ntmps69
  go_wp2_with fail
  go_loopw [1] (fun v wr => ∃ (m : Nat) (pre : List UInt8) (F' : Nat → Prop), v = .int .u64 m ∧ m ≤ n ∧ leb n = pre ++ leb m ∧ pre.length ≤ 9 ∧ WrAt wr F' b (bs ++ pre) ∧ Only F w wr ∧ ∀ k, F' k → F k ∨ w.heap.size ≤ k)
     (fun v _ => (intOf v).toNat)
  case atStart => exact ⟨n, [], F, rfl, Nat.le_refl _, rfl, by simp, by simpa using h, Only.refl _ _, fun k hk => .inl hk⟩
  case round =>
    obtain ⟨m, pre, F', rfl, hm, hl, hpl, hwr, ho, hF'⟩ := hrel
    obtain ⟨v, hblk, hFb, hown, hFv⟩ := hwr
    have hL : (bs ++ pre).length ≤ 1000000009 := by simp; omega
    have HB := Lib.hid (And.intro hl (And.intro hFv (And.intro hFb hF')))
    generalize hcur : bs ++ pre = cur at *
    have HCUR := Lib.hid hcur
    clear hcur
    generalize hn : cur.length = L at *
    have HLn := Lib.hid hn
    obtain ⟨A, c, rfl⟩ := ownsRow_slice hown
    have hne : (Value.slice A L c).ownBlock ≠ some b := own_blk_ne hown hblk (by decide)
    have hc := blk_cell hblk
    have hf := blk_frozen hblk
    have hbs := (Array.getElem?_eq_some_iff.1 hblk).1
    have HW := Lib.hid (And.intro hblk (And.intro hown hne))
    clear hl hF' hFb hFv hn hblk hown hne
    by_cases hge : 128 ≤ m
    · have hm64 : m < 18446744073709551616 := Nat.lt_of_le_of_lt hm HN.out
      obtain ⟨d, hd⟩ : ∃ d, m % 128 = d := ⟨_, rfl⟩
      have hd2 : d < 128 := by omega
      have e1 : bits .and .u64 (m : Int) 127 = (d : Int) := by
        have := u64_and_nat m 127 hm64 (by decide)
        rw [show ((127 : Nat) : Int) = 127 from rfl] at this
        rw [this, ← hd]
        congr 1
        exact Nat.and_two_pow_sub_one_eq_mod m 7
      have e2 : (d : Int) % 256 = (d : Int) := by omega
      have e3 : bits .or .u8 (d : Int) 128 = ((UInt8.ofNat (d + 128)).toNat : Int) := by
        have := u8_or_nat d 128 (by omega) (by decide)
        rw [show ((128 : Nat) : Int) = 128 from rfl] at this
        rw [this, Nat.or_comm, nat_join 7 128 d (by decide) (by omega)]
        simp; omega
      have hy : leb m = UInt8.ofNat (d + 128) :: leb (m / 128) := by rw [leb_ge hge hm64, hd]
      generalize UInt8.ofNat (d + 128) = y at *
      have HD := Lib.hid hy
      clear hd hm64 hy
      have c1 : L + 1 ≤ maxLen := by simp only [maxLen]; omega
      have c2 : (L + 1) * 1 ≤ 140737488355328 := by omega
      have hown2 := HW.out.2.1.alloc (.cells #[B8 y] 5)
      have HC := Lib.hid (And.intro c1 (And.intro c2 hown2))
      clear c1 c2 hown2
      go_wp2_with (at_builtin; refine wpList_append_lies _ rfl _ _ 31 rfl 0 5 i0 (.int .u8 0) 1 1 Tryz.underlying31 hi hz0 hz1 hz2 rfl (by decide) (.slice A L c) L (cur.map B8) rfl HC.out.2.2 ⟨wr.heap.size, 0, none⟩ 1 1 [B8 y] rfl rfl (cell_one_new _ _ _) (by simp [B8, Value.oneCell']) (by decide) HC.out.1 HC.out.2.1 (Nat.zero_le _) (wr.heap.size + 1) (by simp) ?_; intro g cap w1 hown1 hgrow hat hlt; have HB1 := Lib.hid ((only_ag hgrow).heap HW.out.1 HW.out.2.2); have hc1 := blk_cell HB1.out; have hf1 := blk_frozen HB1.out)
      go_roundw
      case rel =>
        obtain ⟨hw2, ho2⟩ := wr_step (m := 1) (news := [y]) HW.out.1 HLn.out rfl HW.out.2.2 HB.out.2.1 HB.out.2.2.1 hown1 (only_ag hgrow) (fun k hk => by injection hk with hk; subst hk; exact hat.imp_right (fun h => by show wr.heap.size ≤ g; omega))
        have hl2 : leb n = (pre ++ [y]) ++ leb (m / 128) := by rw [HB.out.1, HD.out]; simp
        refine ⟨m / 128, pre ++ [y], fun k => F' k ∨ wr.heap.size ≤ k, by simp, by omega, hl2, ?_, ?_, ho.trans ho2 (fun i hi h => ?_), fun k hk => ?_⟩
        · have h1 := leb_length n
          have h2 := leb_pos (m / 128)
          rw [hl2] at h1
          simp at h1 ⊢
          omega
        · rw [← List.append_assoc, HCUR.out]; exact hw2
        · rcases HB.out.2.2.2 i h with h | h
          · exact h
          · omega
        · rcases hk with h | h
          · exact HB.out.2.2.2 k h
          · exact .inr (by have := ho.size; omega)
      case measure => simp [intOf]; omega
    · have hlt : m < 128 := by omega
      have hy : leb m = [UInt8.ofNat m] := leb_lt hlt
      have e1 : Value.int .u8 (m : Int) = B8 (UInt8.ofNat m) := by simp [B8]; omega
      have E1 := Lib.hid e1
      clear e1
      generalize UInt8.ofNat m = y at E1 hy
      have c1 : L + 1 ≤ maxLen := by simp only [maxLen]; omega
      have c2 : (L + 1) * 1 ≤ 140737488355328 := by omega
      have hown2 := HW.out.2.1.alloc (.cells #[.int .u8 (m : Int)] 5)
      have HC := Lib.hid (And.intro c1 (And.intro c2 hown2))
      have HD := Lib.hid hy
      clear c1 c2 hown2 hy
      go_wp2_with (at_builtin; refine wpList_append_lies _ rfl _ _ 31 rfl 0 5 i0 (.int .u8 0) 1 1 Tryz.underlying31 hi hz0 hz1 hz2 rfl (by decide) (.slice A L c) L (cur.map B8) rfl HC.out.2.2 ⟨wr.heap.size, 0, none⟩ 1 1 [.int .u8 (m : Int)] rfl rfl (cell_one_new _ _ _) (by simp [Value.oneCell']) (by decide) HC.out.1 HC.out.2.1 (Nat.zero_le _) (wr.heap.size + 1) (by simp) ?_; intro g cap w1 hown1 hgrow hat hlt; have HB1 := Lib.hid ((only_ag hgrow).heap HW.out.1 HW.out.2.2); have hc1 := blk_cell HB1.out; have hf1 := blk_frozen HB1.out)
      go_end0
      rw [E1.out] at hown1
      obtain ⟨hw2, ho2⟩ := wr_step (m := 1) (news := [y]) HW.out.1 HLn.out rfl HW.out.2.2 HB.out.2.1 HB.out.2.2.1 hown1 (only_ag hgrow) (fun k hk => by injection hk with hk; subst hk; exact hat.imp_right (fun h => by show wr.heap.size ≤ g; omega))
      refine ⟨rfl, ho.trans ho2 (fun i hi h => ?_), fun k => F' k ∨ wr.heap.size ≤ k, ?_, fun k hk => ?_⟩
      · rcases HB.out.2.2.2 i h with h | h
        · exact h
        · omega
      · rw [HB.out.1, HD.out, ← List.append_assoc, HCUR.out]; exact hw2
      · rcases hk with h | h
        · exact HB.out.2.2.2 k h
        · exact .inr (by have := ho.size; omega)

/-- append(b, s...) of a string: where the new row lies, too. -/
theorem wpList_append_str_at {P : Program} (w : World) {ops : Array Oper} {rest : List Oper} {o : Oper} {a : Act} {Q : Exit → Act → World → Prop} (hgd : o.guard = none) (sl x : Operand) (t u : TypeId)
    (ho : o.op = .call { callee := .builtin .append, args := #[sl, x], argTypes := #[t, u] })
    (base : Nat) (e : TypeId) (i : TypeInfo) (ht : P.underlying t = some (.slice e)) (hu : P.underlying u = some .string) (hi : P.info? e = some i) (hz : i.zero = some (.int .u8 0))
    (hsize : i.size = 1) (hby : i.bytes = 1)
    (v : Value) (n : Nat) (xs : List Value) (hs : a.eval sl = v) (hown : w.ownsRow base e 1 v n xs) (s : ByteArray) (hx : a.eval x = .string s)
    (h63 : n + s.size ≤ maxLen) (hbytes : n + s.size ≤ 140737488355328) (hbase : base ≤ w.heap.size)
    (h : ∀ A' c' w', w'.ownsRow base e 1 (.slice A' (n + s.size) c') (n + s.size) (xs ++ s.data.toList.map B8) → w.grownBy w' v.ownBlock → ((Value.slice A' (n + s.size) c').ownBlock = v.ownBlock ∨ (Value.slice A' (n + s.size) c').ownBlock = some w.heap.size) → wpList P ops Q rest (a.put o.dst (.slice A' (n + s.size) c')) w') : wpList P ops Q (o :: rest) a w := by
  refine wpList_plain hgd fun K hK => ?_
  obtain ⟨v', w', hr, h2, h3, h4⟩ := Lib.run_append_own_string (P := P) w base t u o.type e i ht hu hi hz hsize hby v n xs hown s h63 hbytes hbase
  have hat : v'.ownBlock = v.ownBlock ∨ v'.ownBlock = some w.heap.size := by
    have hsmall : n + s.size ≤ 9223372036854775807 := by simp only [maxLen] at h63; omega
    rcases hown.2 with ⟨rfl, rfl⟩ | ⟨g, cap, cur, rfl, hbg, hg, hnc, hcm, hcs, htake⟩
    · by_cases hm : s.size = 0
      · left; rw [h4.2 ⟨rfl, hm⟩]
      · right
        have hr' := run_append_nil_string (P := P) w t u o.type e i (.int .u8 0) ht hu hi hz s (by omega) (by omega) (by rw [hby]; omega)
        rw [hr] at hr'
        injection hr' with e1 _
        rw [e1]; rfl
    · by_cases hroom : n + s.size ≤ cap
      · left
        have hcs' : cur.size = cap := by simpa using hcs
        have hr' := Lib.run_append_room_string (P := P) w t u o.type e i ht hu hi hsize g n cap cur hg s hroom (by omega)
        rw [hr] at hr'
        injection hr' with e1 _
        rw [e1]; rfl
      · right
        have holds : ∀ j u, xs[j]? = some u → w.cell? ((⟨g, 0, none⟩ : Addr).add j) = some u := hown.cells (g := g) rfl
        have hxl : xs.length = n := by simpa using hown.1
        have hr' := Lib.run_append_grow_string (P := P) w t u o.type e i (.int .u8 0) ht hu hi hz ⟨g, 0, none⟩ n cap xs (by rw [hsize]; simpa using hxl) holds s (by omega) (by omega) (by rw [hby]; exact growslice_fits (by omega) (by omega))
        rw [hr] at hr'
        injection hr' with e1 _
        rw [e1]; rfl
  obtain ⟨A', c', rfl⟩ := ownsRow_slice h2
  unfold Oper.wp execOp
  simp only [ho, resolve, invoke, builtin, Sem.run_bind, Sem.run_pure, Result.andThen_ok, List.map_toArray, List.map_cons, List.map_nil, hs, hx, hr]
  exact hK _ _ (h A' c' w' h2 h3 hat)

/-- Behind a call that has written something. -/
def WroteP (r : Int) (F : Nat → Prop) (b : Nat) (bs : List UInt8) (w : World) (e : Ending) (w' : World) : Prop :=
  e = .returned (.int .i64 r) ∧ Only F w w' ∧ ∃ F', WrAt w' F' b bs ∧ ∀ k, F' k → F k ∨ w.heap.size ≤ k

theorem uint_ok (w : World) (F : Nat → Prop) (b : Nat) (bs : List UInt8) (h : WrAt w F b bs) (n : Nat) (hn : n < 9223372036854775808) (hlen : bs.length ≤ 1000000000) :
    Calls Tryz.prog 40 #[.pointer (some ⟨b, 0, none⟩), .int .i64 n] w (WroteP 0 F b (bs ++ leb n) w) := by
  have H := Lib.hid h
  have HN := Lib.hid hn
  clear h
  have hn' : n ≤ 9223372036854775807 := by omega
  clear hn
  go_enter Tryz.func40, Tryz.ntmps40
  go_wp2_with fail
  refine (groups_ok w F b bs H.out n (by have := HN.out; omega) hlen).mono ?_
  rintro e w1 ⟨rfl, ho, F', hw, hF'⟩
  go_wp2_with fail
  go_ret
  exact ⟨rfl, ho, F', hw, hF'⟩

theorem text_ok (w : World) (F : Nat → Prop) (b : Nat) (bs : List UInt8) (h : WrAt w F b bs) (s : ByteArray) (hs : s.size ≤ 65536) (hlen : bs.length ≤ 1000000000) :
    Calls Tryz.prog 42 #[.pointer (some ⟨b, 0, none⟩), .string s] w (WroteP 0 F b (bs ++ (leb s.size ++ s.data.toList)) w) := by
  obtain ⟨i0, hi, hz0, hz1, hz2⟩ := info_parts Tryz.info5
  have H := Lib.hid h
  clear h
  go_enter Tryz.func42, Tryz.ntmps42
  go_wp2_with fail
  refine (groups_ok w F b bs H.out s.size (by omega) hlen).mono ?_
  rintro e w1 ⟨rfl, ho, F', hw, hF'⟩
  obtain ⟨v, hblk, hFb, hown, hFv⟩ := hw
  have hL : (bs ++ leb s.size).length ≤ 1000000010 := by have := leb_length s.size; simp; omega
  have hass : bs ++ (leb s.size ++ s.data.toList) = (bs ++ leb s.size) ++ s.data.toList := by simp
  have HB := Lib.hid (And.intro hFv (And.intro hFb hF'))
  generalize bs ++ leb s.size = cur at *
  have HASS := Lib.hid hass
  generalize hn : cur.length = L at *
  have HLn := Lib.hid hn
  obtain ⟨A, c, rfl⟩ := ownsRow_slice hown
  have hne : (Value.slice A L c).ownBlock ≠ some b := own_blk_ne hown hblk (by decide)
  have hc := blk_cell hblk
  have hf := blk_frozen hblk
  have c1 : L + s.size ≤ maxLen := by simp only [maxLen]; omega
  have c2 : L + s.size ≤ 140737488355328 := by omega
  have HW := Lib.hid (And.intro hblk (And.intro hown (And.intro hne (And.intro c1 c2))))
  clear hF' hFb hFv hn hblk hown hne hass c1 c2
  go_wp2_with (at_builtin; refine wpList_append_str_at _ rfl _ _ 31 9 rfl 0 5 i0 Tryz.underlying31 Tryz.underlying9 hi hz0 hz1 hz2 (.slice A L c) L (cur.map B8) rfl HW.out.2.1 s rfl HW.out.2.2.2.1 HW.out.2.2.2.2 (Nat.zero_le _) ?_; intro A' c' w2 hown2 hgrow hat; have HB1 := Lib.hid ((Only.of_grownBy hgrow).heap HW.out.1 HW.out.2.2.1); have hc1 := blk_cell HB1.out; have hf1 := blk_frozen HB1.out)
  go_ret
  obtain ⟨hw2, ho2⟩ := wr_step (m := s.size) (news := s.data.toList) HW.out.1 HLn.out (by simp) HW.out.2.2.1 HB.out.1 HB.out.2.1 hown2 (Only.of_grownBy hgrow) (fun k hk => by
    have hk' : (Value.slice A' (L + s.size) c').ownBlock = some k := hk
    rcases hat with h | h
    · exact .inl (h.symm.trans hk')
    · rw [hk'] at h; injection h with h; exact .inr (by omega))
  refine ⟨rfl, ho.trans ho2 (fun i hi h => ?_), fun k => F' k ∨ w1.heap.size ≤ k, by rw [HASS.out]; exact hw2, fun k hk => ?_⟩
  · rcases HB.out.2.2 i h with h | h
    · exact h
    · omega
  · rcases hk with h | h
    · exact HB.out.2.2 k h
    · exact .inr (by have := ho.size; omega)

theorem wbytes_ok (w : World) (F : Nat → Prop) (b : Nat) (bs : List UInt8) (h : WrAt w F b bs) (hlen : bs.length ≤ 1000000000) :
    Calls Tryz.prog 43 #[.pointer (some ⟨b, 0, none⟩)] w (Fresh 5 (bs.map B8) w) := by
  obtain ⟨v, hblk, _, hown, _⟩ := h
  obtain ⟨A, c, rfl⟩ := ownsRow_slice hown
  have hc := blk_cell hblk
  have HR := Lib.hid (Rd.of_own (F := fun _ => True) hown (fun _ _ => trivial))
  clear hblk hown
  go_enter Tryz.func43, Tryz.ntmps43
  go_wp2_with fail
  refine (clone_bytes _ _ _ _ HR.out (B8_one bs) (by simp; omega)).mono ?_
  rintro e w1 ⟨Ax, cx, rfl, hx, hbl⟩
  have HX := Lib.hid (And.intro hx hbl)
  clear hx hbl
  go_wp2_with fail
  go_ret
  exact ⟨Ax, cx, by simp, HX.out.1, HX.out.2⟩

end Go.Proofs.YtihjcfifakcpgaaGreatDoor

/- The reader in memory ('RdrAt'): groups, Uint, Text, Left. -/
namespace Go.Proofs.YtihjcfifakcpgaaGreatDoor
set_option maxRecDepth 100000
open Go.RowKit

/-- A reader in memory, behind pos bytes of all. -/
def RdrAt (w : World) (F : Nat → Prop) (b : Nat) (all : List UInt8) (pos : Nat) : Prop :=
  ∃ v, w.heap[b]? = some (.cells #[v, .int .i64 pos] 149 (0, 0)) ∧ F b ∧ pos ≤ all.length ∧ w.ownsRow 0 5 1 v all.length (all.map B8) ∧ (∀ g, v.ownBlock = some g → F g ∧ g ≠ b)

section
variable {w w' : World} {F S : Nat → Prop} {b : Nat} {all : List UInt8} {pos : Nat}
theorem RdrAt.only (h : RdrAt w F b all pos) (ho : Only S w w') (hd : ∀ k, F k → ¬ S k) : RdrAt w' F b all pos := by
  obtain ⟨v, h1, h2, h3, h4, h5⟩ := h
  exact ⟨v, ho.heap h1 (hd b h2), h2, h3, own_only h4 ho (fun g hg => hd g (h5 g hg).1), h5⟩
theorem RdrAt.below (h : RdrAt w F b all pos) (hb : Below w.heap.size w w') : RdrAt w' F b all pos := h.only (Only.of_below hb fun _ => False) (fun _ _ => id)
theorem RdrAt.bound (h : RdrAt w F b all pos) : RdrAt w (fun k => F k ∧ k < w.heap.size) b all pos := by
  obtain ⟨v, h1, h2, h3, h4, h5⟩ := h
  exact ⟨v, h1, ⟨h2, (Array.getElem?_eq_some_iff.1 h1).1⟩, h3, h4, fun g hg => ⟨⟨(h5 g hg).1, (h4.lt g hg).2⟩, (h5 g hg).2⟩⟩
theorem RdrAt.set (h : RdrAt w F b all pos) (p' : Nat) (hp : p' ≤ all.length) : RdrAt (w.setCell ⟨b, 1, none⟩ (.int .i64 p')) F b all p' := by
  obtain ⟨v, h1, h2, h3, h4, h5⟩ := h
  refine ⟨v, ?_, h2, hp, own_only h4 (Only.set1 w b 1 _) (fun g hg e => (h5 g hg).2 e), h5⟩
  simp [World.setCell, Array.getElem?_modify, h1]
theorem RdrAt.at_ (h : RdrAt w F b all pos) : ∃ A c, w.cell? ⟨b, 0, none⟩ = some (.slice A all.length c) ∧ w.cell? ⟨b, 1, none⟩ = some (.int .i64 pos) ∧ w.frozen? ⟨b, 1, none⟩ = false ∧ b < w.heap.size ∧ pos ≤ all.length ∧ all.length ≤ c ∧ c ≤ maxLen ∧
    ∀ i x, all[i]? = some x → ∃ g, A = some ⟨g, 0, none⟩ ∧ w.cell? ⟨g, i, none⟩ = some (B8 x) := by
  obtain ⟨v, h1, h2, h3, h4, h5⟩ := h
  obtain ⟨A, c, rfl⟩ := ownsRow_slice h4
  obtain ⟨A', n', c', he, hl, hc, hm, hx⟩ := Rd.of_own (F := fun _ => True) h4 (fun _ _ => trivial)
  injection he with e1 e2 e3
  subst e1 e2 e3
  refine ⟨A, c, by simp [World.cell?, h1], by simp [World.cell?, h1], by simp [World.frozen?, h1], (Array.getElem?_eq_some_iff.1 h1).1, h3, hc, hm, fun i x hi => ?_⟩
  have hlt := (List.getElem?_eq_some_iff.1 hi).1
  obtain ⟨g, cap, hv, _, _⟩ := h4.form (by omega)
  injection hv with e1 _ _
  subst e1
  refine ⟨g, rfl, ?_⟩
  rw [h4.cellAt i (by omega)]
  simp [hi]
end

theorem drewN_only2 {w w' : World} {n : Nat} (h : w.drewN n = w') : Only (fun _ => False) w w' := by rw [← h]; exact (Only.refl _ _).drewN _

def GroupsP (F : Nat → Prop) (b : Nat) (all : List UInt8) (pos : Nat) (w : World) (e : Ending) (w' : World) : Prop :=
  Only (fun k => k = b) w w' ∧ match rdG 0 0 (all.drop pos) with
    | some (n, rest) => e = .returned (.tuple #[.int .u64 n, .int .i64 0]) ∧ ∃ p', rest = all.drop p' ∧ pos ≤ p' ∧ RdrAt w' F b all p'
    | none => e = .returned (.tuple #[.int .u64 0, .int .i64 11]) ∧ ∃ p', RdrAt w' F b all p'

theorem or_val {acc d k : Nat} (hk : k ≤ 9) (ha : acc < 128 ^ k) (hd : d * 128 ^ k < 18446744073709551616) :
    IntKind.u64.wrap ((d : Int) * 2 ^ (7 * k)) = ((d * 128 ^ k : Nat) : Int) ∧ bits .or .u64 (acc : Int) ((d * 128 ^ k : Nat) : Int) = ((acc + d * 128 ^ k : Nat) : Int) := by
  have e : (2 : Nat) ^ (7 * k) = 128 ^ k := by rw [Nat.pow_mul]
  have ei : ((d : Int) * 2 ^ (7 * k)) = ((d * 128 ^ k : Nat) : Int) := by
    rw [← e]
    push_cast
    rfl
  have ha2 : acc < 18446744073709551616 := by
    have : (128 : Nat) ^ k ≤ 128 ^ 9 := Nat.pow_le_pow_right (by decide) hk
    have h9 : (128 : Nat) ^ 9 = 9223372036854775808 := by decide
    omega
  constructor
  · rw [ei, IntKind.wrap_u64]
    omega
  · rw [u64_or_nat acc _ ha2 hd, Nat.or_comm, nat_join (7 * k) (d * 128 ^ k) acc (by rw [e]; exact Nat.mul_mod_left _ _) (by rw [e]; exact ha), Nat.add_comm]

theorem rdG_cons {all : List UInt8} {p k acc : Nat} {x : UInt8} (h : all[p]? = some x) : rdG k acc (all.drop p) = if k = 9 ∧ 1 < x.toNat then none else if 128 ≤ x.toNat then rdG (k + 1) (acc + (x.toNat - 128) * 128 ^ k) (all.drop (p + 1))
    else if x.toNat = 0 ∧ 0 < k then none else some (acc + x.toNat * 128 ^ k, all.drop (p + 1)) := by
  have hlt := (List.getElem?_eq_some_iff.1 h).1
  have hx : all[p] = x := (List.getElem?_eq_some_iff.1 h).2
  rw [List.drop_eq_getElem_cons hlt, hx]
  rfl

set_option maxRecDepth 100000 in
set_option maxHeartbeats 4000000 in
theorem rgroups_ok (w : World) (F : Nat → Prop) (b : Nat) (all : List UInt8) (pos : Nat) (h : RdrAt w F b all pos) :
    Calls Tryz.prog 124 #[.pointer (some ⟨b, 0, none⟩)] w (GroupsP F b all pos w) := by
  have H := Lib.hid h
  clear h
  go_enter Tryz.func124, Tryz.ntmps124
  go_wp2_with fail
  go_step3
  go_wp2_with fail
  go_step3
  go_wp2_with fail
  go_loopw [4, 5] (fun n s wr => ∃ k acc : Nat, k ≤ 9 ∧ acc < 128 ^ k ∧ n = .int .u64 acc ∧ s = .int .i64 (7 * k : Nat) ∧ rdG 0 0 (all.drop pos) = rdG k acc (all.drop (pos + k)) ∧ RdrAt wr F b all (pos + k) ∧ Only (fun j => j = b) w wr)
    (fun _ s _ => (70 - intOf s).toNat)
  case atStart => exact ⟨0, 0, by omega, by simp, rfl, rfl, rfl, H.out, Only.refl _ _⟩
  case round =>
    obtain ⟨k, acc, hk, hacc, rfl, rfl, hrd, hr, ho⟩ := hrel
    have HR := Lib.hid (And.intro hr (And.intro hrd (And.intro ho hacc)))
    obtain ⟨A, c, hc0, hc1, hf1, hb, hpl, hcl, hcm, hcells⟩ := hr.at_
    have HC := Lib.hid hcells
    unfold maxLen at hcm
    clear hr hrd ho hcells hacc
    generalize hp : pos + k = p at *
    have HP := Lib.hid hp
    clear hp
    by_cases hlt : p < all.length
    · obtain ⟨x, hx⟩ : ∃ x, all[p]? = some x := ⟨_, List.getElem?_eq_getElem hlt⟩
      obtain ⟨g, rfl, hcx⟩ := HC.out p x hx
      have i1 : (0 : Int) ≤ (p : Int) := by omega
      have i2 : (p : Int) < (all.length : Int) := by omega
      have hcx' : wr.cell? ⟨g, p, none⟩ = some (.int .u8 (x.toNat : Int)) := hcx
      have HX := Lib.hid (And.intro (rdG_cons (k := k) (acc := acc) hx) x.toNat_lt)
      clear hx hcx
      generalize hxn : x.toNat = xn at *
      clear hxn
      have hx256 : xn < 256 := HX.out.2
      go_wp2_with fail
      go_quiet (fail)
      obtain ⟨w1, hw1⟩ : ∃ w1, wr.drewN nq = w1 := ⟨_, rfl⟩
      rw [hw1]
      have hq1 := drewN_only2 hw1
      have d0 := hq1.cell hc0 id
      have d1 := hq1.cell hc1 id
      have dx := hq1.cell hcx' id
      have dz : w1.frozen? ⟨b, 1, none⟩ = false := by rw [← hw1]; exact hf1
      clear hw1
      go_wp2_with fail
      go_quiet (fail)
      obtain ⟨w2, hw2⟩ : ∃ w2, w1.drewN nq = w2 := ⟨_, rfl⟩
      rw [hw2]
      have hq2 := drewN_only2 hw2
      have f1 := hq2.cell d1 id
      have fz : w2.frozen? ⟨b, 1, none⟩ = false := by rw [← hw2]; exact dz
      have ho2 : Only (fun _ => False) wr w2 := hq1.trans hq2 (fun _ _ h => h)
      have hr2 := (HR.out.1.only ho2 (fun _ _ => id)).set (p + 1) (by omega)
      have hoo : Only (fun j => j = b) w (w2.setCell ⟨b, 1, none⟩ (.int .i64 ((p + 1 : Nat) : Int))) :=
        HR.out.2.2.1.trans ((Only.mono (T := fun j => j = b) ho2 (fun _ _ h => h.elim)).setCell (p := ⟨b, 1, none⟩) (fun _ => rfl) _) (fun _ _ h => h)
      have ecast : ((p + 1 : Nat) : Int) = (p : Int) + 1 := by omega
      rw [ecast] at hr2 hoo
      have HS := Lib.hid (And.intro hr2 hoo)
      clear hw2 hq1 hq2 d0 d1 dx dz hc0 hc1 hcx' hf1 ho2 hr2 hoo ecast
      by_cases hA : k = 9 ∧ 1 < xn
      · obtain ⟨rfl, hA⟩ := hA
        have hfin : rdG 0 0 (all.drop pos) = none := by rw [HR.out.2.1, HX.out.1, if_pos ⟨rfl, hA⟩]
        have HFIN := Lib.hid hfin
        clear hfin
        go_wp2_with fail
        try rw [Exit.noGoto_ret]
        go_ret2
        refine ⟨HS.out.2, ?_⟩
        rw [HFIN.out]
        exact ⟨rfl, _, HS.out.1⟩
      · by_cases hB : 128 ≤ xn
        · have hk9 : k < 9 := by omega
          have hd : bits .and .u8 (xn : Int) 127 = ((xn - 128 : Nat) : Int) := by
            have := u8_and_nat xn 127 hx256 (by decide)
            rw [show ((127 : Nat) : Int) = 127 from rfl] at this
            rw [this]
            congr 1
            have := Nat.and_two_pow_sub_one_eq_mod xn 7
            simp at this
            rw [this]
            omega
          have hdk : (xn - 128) * 128 ^ k < 128 ^ (k + 1) := by
            rw [Nat.pow_succ, Nat.mul_comm (128 ^ k) 128]
            exact Nat.mul_lt_mul_of_pos_right (by omega) (Nat.pow_pos (by decide))
          have h9 : (128 : Nat) ^ (k + 1) ≤ 9223372036854775808 := by
            have h1 : (128 : Nat) ^ (k + 1) ≤ 128 ^ 9 := Nat.pow_le_pow_right (by decide) (by omega)
            have h2 : (128 : Nat) ^ 9 = 9223372036854775808 := by decide
            omega
          obtain ⟨e3, e4⟩ := or_val (d := xn - 128) hk HR.out.2.2.2 (by omega)
          have hfin : rdG 0 0 (all.drop pos) = rdG (k + 1) (acc + (xn - 128) * 128 ^ k) (all.drop (p + 1)) := by rw [HR.out.2.1, HX.out.1, if_neg hA, if_pos hB]
          have hacc2 : acc + (xn - 128) * 128 ^ k < 128 ^ (k + 1) := by
            have := HR.out.2.2.2
            have e1 : (128 : Nat) ^ (k + 1) = 128 * 128 ^ k := by rw [Nat.pow_succ, Nat.mul_comm]
            have e2 : (xn - 128) * 128 ^ k ≤ 127 * 128 ^ k := Nat.mul_le_mul_right _ (by omega)
            omega
          have e2 : IntKind.u64.wrap ((xn - 128 : Nat) : Int) = ((xn - 128 : Nat) : Int) := by rw [IntKind.wrap_u64]; omega
          generalize (xn - 128) * 128 ^ k = m at *
          generalize hacc' : acc + m = acc' at *
          have HFIN := Lib.hid (And.intro hfin hacc2)
          generalize xn - 128 = d at *
          clear hfin hacc2 hacc' hdk h9
          go_wp2_with fail
          go_roundw
          case rel =>
            refine ⟨k + 1, acc', by omega, HFIN.out.2, rfl, by simp; omega, ?_, ?_, HS.out.2⟩
            · rw [HFIN.out.1, ← HP.out, Nat.add_assoc]
            · rw [← Nat.add_assoc, HP.out]; exact HS.out.1
          case measure => simp [intOf]; omega
        · by_cases hC : xn = 0 ∧ 0 < k
          · have hfin : rdG 0 0 (all.drop pos) = none := by rw [HR.out.2.1, HX.out.1, if_neg hA, if_neg hB, if_pos hC]
            obtain ⟨rfl, hk0⟩ := hC
            have HFIN := Lib.hid hfin
            clear hfin
            by_cases hk9 : k = 9
            · subst hk9
              go_wp2_with fail
              try rw [Exit.noGoto_ret]
              go_ret2
              refine ⟨HS.out.2, ?_⟩
              rw [HFIN.out]
              exact ⟨rfl, _, HS.out.1⟩
            · go_wp2_with fail
              try rw [Exit.noGoto_ret]
              go_ret2
              refine ⟨HS.out.2, ?_⟩
              rw [HFIN.out]
              exact ⟨rfl, _, HS.out.1⟩
          · have hxk : xn * 128 ^ k < 18446744073709551616 := by
              by_cases hk9 : k = 9
              · subst hk9
                have h2 : (128 : Nat) ^ 9 = 9223372036854775808 := by decide
                rw [h2]
                omega
              · have h1 : (128 : Nat) ^ (k + 1) ≤ 128 ^ 9 := Nat.pow_le_pow_right (by decide) (by omega)
                have h2 : (128 : Nat) ^ 9 = 9223372036854775808 := by decide
                have e1 : (128 : Nat) ^ (k + 1) = 128 * 128 ^ k := by rw [Nat.pow_succ, Nat.mul_comm]
                have e2 : xn * 128 ^ k ≤ 127 * 128 ^ k := Nat.mul_le_mul_right _ (by omega)
                omega
            obtain ⟨e3, e4⟩ := or_val (d := xn) hk HR.out.2.2.2 hxk
            have hfin : rdG 0 0 (all.drop pos) = some (acc + xn * 128 ^ k, all.drop (p + 1)) := by rw [HR.out.2.1, HX.out.1, if_neg hA, if_neg hB, if_neg hC]
            have HFIN := Lib.hid hfin
            have HE := Lib.hid (And.intro e3 e4)
            clear hfin e3 e4 hxk
            by_cases hk9 : k = 9
            · subst hk9
              have hx1 : xn = 1 := by omega
              subst hx1
              have e5 : bits .or .u64 (acc : Int) 9223372036854775808 = ((acc + 1 * 128 ^ 9 : Nat) : Int) := HE.out.2
              generalize acc + 1 * 128 ^ 9 = v at *
              go_wp2_with fail
              try rw [Exit.noGoto_ret]
              go_ret2
              refine ⟨HS.out.2, ?_⟩
              rw [HFIN.out]
              exact ⟨rfl, p + 1, rfl, by have := HP.out; omega, HS.out.1⟩
            · by_cases hx0 : xn = 0
              · obtain rfl : k = 0 := by omega
                subst hx0
                have ha := HR.out.2.2.2
                simp at ha
                subst ha
                have e5 : bits .or .u64 0 0 = 0 := by decide
                go_wp2_with fail
                try rw [Exit.noGoto_ret]
                go_ret2
                refine ⟨HS.out.2, ?_⟩
                rw [HFIN.out]
                exact ⟨by simp, p + 1, rfl, by have := HP.out; omega, HS.out.1⟩
              · have e3 := HE.out.1
                have e4 := HE.out.2
                clear HE HX
                generalize xn * 128 ^ k = m at *
                generalize acc + m = v at *
                go_wp2_with fail
                try rw [Exit.noGoto_ret]
                go_ret2
                refine ⟨HS.out.2, ?_⟩
                rw [HFIN.out]
                exact ⟨rfl, p + 1, rfl, by have := HP.out; omega, HS.out.1⟩
    · obtain rfl : p = all.length := by omega
      have hfin : rdG 0 0 (all.drop pos) = none := by rw [HR.out.2.1]; simp [rdG]
      have HFIN := Lib.hid hfin
      clear hfin
      have i2 : decide ((all.length : Int) < (all.length : Int)) = false := by simp
      go_wp2_with fail
      go_quiet (fail)
      obtain ⟨w1, hw1⟩ : ∃ w1, wr.drewN nq = w1 := ⟨_, rfl⟩
      rw [hw1]
      have hq1 := drewN_only2 hw1
      have hr1 := HR.out.1.only hq1 (fun _ _ => id)
      have ho1 := HR.out.2.2.1.trans hq1 (fun _ _ h => h.elim)
      have HS := Lib.hid (And.intro hr1 ho1)
      clear hw1 hr1 ho1 hq1
      go_wp2_with fail
      try rw [Exit.noGoto_ret]
      go_ret2
      refine ⟨HS.out.2, ?_⟩
      rw [HFIN.out]
      exact ⟨rfl, _, HS.out.1⟩
end Go.Proofs.YtihjcfifakcpgaaGreatDoor

/- The reader: Uint, Text, Left, and going back. -/
namespace Go.Proofs.YtihjcfifakcpgaaGreatDoor
set_option maxRecDepth 100000
open Go.RowKit

def UnsP (F : Nat → Prop) (b : Nat) (all : List UInt8) (pos : Nat) (w : World) (e : Ending) (w' : World) : Prop :=
  Only (fun k => k = b) w w' ∧ match rdU (all.drop pos) with
    | some (n, rest) => e = .returned (.tuple #[.int .i64 n, .int .i64 0]) ∧ ∃ p', rest = all.drop p' ∧ pos ≤ p' ∧ RdrAt w' F b all p'
    | none => (∃ ec : Int, (ec = 10 ∨ ec = 11) ∧ e = .returned (.tuple #[.int .i64 0, .int .i64 ec])) ∧ ∃ p', RdrAt w' F b all p'

theorem unsigned_ok (w : World) (F : Nat → Prop) (b : Nat) (all : List UInt8) (pos : Nat) (h : RdrAt w F b all pos) :
    Calls Tryz.prog 110 #[.pointer (some ⟨b, 0, none⟩)] w (UnsP F b all pos w) := by
  have H := Lib.hid h
  clear h
  go_enter Tryz.func110, Tryz.ntmps110
  go_wp2_with fail
  refine (rgroups_ok w F b all pos H.out).mono ?_
  rintro e w1 ⟨ho, hm⟩
  cases hg : rdG 0 0 (all.drop pos) with
  | none =>
    rw [hg] at hm
    obtain ⟨rfl, p', hr⟩ := hm
    have hu : rdU (all.drop pos) = none := by simp [rdU, hg]
    have HU := Lib.hid hu
    clear hu hg
    go_wp2_with fail
    go_ret2
    refine ⟨ho, ?_⟩
    rw [HU.out]
    exact ⟨⟨11, .inr rfl, rfl⟩, p', hr⟩
  | some x =>
    obtain ⟨n, rest⟩ := x
    rw [hg] at hm
    obtain ⟨rfl, p', hrest, hpp, hr⟩ := hm
    by_cases hn : n ≤ 9223372036854775807
    · have hu : rdU (all.drop pos) = some (n, rest) := by simp [rdU, hg, hn]
      have HU := Lib.hid (And.intro hu hrest)
      clear hu hg hrest
      go_wp2_with fail
      go_ret2
      refine ⟨ho, ?_⟩
      rw [HU.out.1]
      exact ⟨rfl, p', HU.out.2, hpp, hr⟩
    · have hu : rdU (all.drop pos) = none := by simp [rdU, hg, hn]
      have HU := Lib.hid hu
      clear hu hg hrest
      go_wp2_with fail
      go_ret2
      refine ⟨ho, ?_⟩
      rw [HU.out]
      exact ⟨⟨10, .inl rfl, rfl⟩, p', hr⟩

theorem back_ok (w : World) (F : Nat → Prop) (b : Nat) (all : List UInt8) (pos p0 : Nat) (h : RdrAt w F b all pos) (hp : p0 ≤ all.length) :
    Calls Tryz.prog 123 #[.agg #[.pointer (some ⟨b, 0, none⟩), .int .i64 p0]] w fun e w' => e = .returned (.tuple #[]) ∧ Only (fun k => k = b) w w' ∧ RdrAt w' F b all p0 := by
  have H := Lib.hid h
  obtain ⟨A, c, hc0, hc1, hf1, hb, hpl, hcl, hcm, _⟩ := h.at_
  have hw1 := cell_alloc_any hc1 (.cells #[.pointer (some ⟨b, 0, none⟩), .int .i64 p0] 186)
  have hz1 : (w.alloc (.cells #[.pointer (some ⟨b, 0, none⟩), .int .i64 p0] 186)).frozen? ⟨b, 1, none⟩ = false := (World.frozen?_of_block (Below.heap_alloc w _ b hb)).trans hf1
  clear h hc0 hc1 hf1
  go_enter Tryz.func123, Tryz.ntmps123
  go_wp2_with fail
  go_end0
  refine ⟨rfl, ?_, ?_⟩
  · exact (Only.setCell (Only.refl (fun k => k = b) w) (p := ⟨b, 1, none⟩) (fun _ => rfl) _).alloc _
  · exact (H.out.set p0 hp).below ((Below.refl _ _).alloc (Nat.le_refl _) _)

def UintP (F : Nat → Prop) (b : Nat) (all : List UInt8) (pos : Nat) (w : World) (e : Ending) (w' : World) : Prop :=
  Only (fun k => k = b) w w' ∧ match rdU (all.drop pos) with
    | some (n, rest) => e = .returned (.tuple #[.int .i64 n, .int .i64 0]) ∧ ∃ p', rest = all.drop p' ∧ pos ≤ p' ∧ RdrAt w' F b all p'
    | none => (∃ ec : Int, (ec = 10 ∨ ec = 11) ∧ e = .returned (.tuple #[.int .i64 0, .int .i64 ec])) ∧ RdrAt w' F b all pos

theorem ruint_ok (w : World) (F : Nat → Prop) (b : Nat) (all : List UInt8) (pos : Nat) (h : RdrAt w F b all pos) :
    Calls Tryz.prog 109 #[.pointer (some ⟨b, 0, none⟩), .func (.func 110) #[.pointer (some ⟨b, 0, none⟩)] #[]] w (UintP F b all pos w) := by
  have H := Lib.hid h
  obtain ⟨A, c, hc0, hc1, hf1, hb, hpl, hcl, hcm, _⟩ := h.at_
  clear h hc0 hf1
  go_enter Tryz.func109, Tryz.ntmps109
  go_wp2_with fail
  refine (unsigned_ok w F b all pos H.out).mono ?_
  rintro e w1 ⟨ho, hm⟩
  cases hg : rdU (all.drop pos) with
  | none =>
    rw [hg] at hm
    obtain ⟨⟨ec, hec, rfl⟩, p', hr⟩ := hm
    have HG := Lib.hid (And.intro hg ho)
    have hne : (ec != 0) = true := by rcases hec with rfl | rfl <;> rfl
    clear hg ho
    go_wp2_with fail
    refine (back_ok w1 F b all p' pos hr hpl).mono ?_
    rintro e w2 ⟨rfl, ho2, hr2⟩
    have HR := Lib.hid (And.intro ho2 hr2)
    clear ho2 hr2
    go_wp2_with fail
    go_ret2
    refine ⟨HG.out.2.trans HR.out.1 (fun _ _ h => h), ?_⟩
    rw [HG.out.1]
    exact ⟨⟨ec, hec, rfl⟩, HR.out.2⟩
  | some x =>
    obtain ⟨n, rest⟩ := x
    rw [hg] at hm
    obtain ⟨rfl, p', hrest, hpp, hr⟩ := hm
    have HG := Lib.hid (And.intro hg (And.intro ho hrest))
    clear hg ho hrest
    go_wp2_with fail
    go_ret2
    refine ⟨HG.out.2.1, ?_⟩
    rw [HG.out.1]
    exact ⟨rfl, p', HG.out.2.2, hpp, hr⟩

theorem Uint_ok (w : World) (F : Nat → Prop) (b : Nat) (all : List UInt8) (pos : Nat) (h : RdrAt w F b all pos) :
    Calls Tryz.prog 82 #[.pointer (some ⟨b, 0, none⟩)] w (UintP F b all pos w) := by
  have H := Lib.hid h
  clear h
  go_enter Tryz.func82, Tryz.ntmps82
  go_wp2_with fail
  refine (ruint_ok w F b all pos H.out).mono ?_
  rintro e w1 hP
  have HP := Lib.hid hP
  obtain ⟨ho, hm⟩ := hP
  cases hg : rdU (all.drop pos) with
  | none =>
    rw [hg] at hm
    obtain ⟨⟨ec, hec, rfl⟩, hr⟩ := hm
    clear hg
    go_wp2_with fail
    go_ret2
    exact HP.out
  | some x =>
    obtain ⟨n, rest⟩ := x
    rw [hg] at hm
    obtain ⟨rfl, _⟩ := hm
    clear hg
    go_wp2_with fail
    go_ret2
    exact HP.out

theorem left_ok (w : World) (F : Nat → Prop) (b : Nat) (all : List UInt8) (pos : Nat) (h : RdrAt w F b all pos) :
    Calls Tryz.prog 91 #[.pointer (some ⟨b, 0, none⟩)] w fun e w' => e = .returned (.int .i64 ((all.length - pos : Nat) : Int)) ∧ Only (fun _ => False) w w' := by
  obtain ⟨A, c, hc0, hc1, hf1, hb, hpl, hcl, hcm, _⟩ := h.at_
  unfold maxLen at hcm
  clear h
  go_enter Tryz.func91, Tryz.ntmps91
  go_wp2_with fail
  go_quiet (fail)
  go_wp2_with fail
  go_ret
  exact ⟨by simp; omega, (Only.refl _ _).drewN _⟩

/-- A piece of a slice that reads. -/
theorem rd_cut {w : World} {F : Nat → Prop} {A : Option Addr} {n c : Nat} {xs : List Value} (h : Rd w F (.slice A n c) xs) (l m : Nat) (hm : l + m ≤ n) :
    Rd w F (.slice (if c = l then A else A.map (·.add (l * 1))) m (c - l)) ((xs.drop l).take m) := by
  obtain ⟨A', n', c', he, hl, hc, hcm, hx⟩ := h
  injection he with e1 e2 e3
  subst e1 e2 e3
  refine ⟨_, m, c - l, rfl, by simp; omega, by omega, by omega, fun h0 => ?_⟩
  obtain ⟨b, o, e, hF, hu⟩ := hx (by omega)
  subst e
  rw [if_neg (by omega)]
  refine ⟨b, o + l, ?_, hF, fun j u hj => ?_⟩
  · simp [Addr.add]
  · rw [List.getElem?_take] at hj
    split at hj
    · rw [List.getElem?_drop] at hj
      have := hu (l + j) u hj
      rw [Nat.add_assoc]
      exact this
    · cases hj

theorem conv_rd {P : Program} {w : World} {F : Nat → Prop} {A : Option Addr} {n c : Nat} {xs : List UInt8} (src dst e : TypeId) (hs : P.underlying src = some (.slice e)) (he : P.underlying e = some (.int .u8)) (hd : P.underlying dst = some .string)
    (h : Rd w F (.slice A n c) (xs.map B8)) : (convert src dst (.slice A n c)).run P w = .ok (.string ⟨xs.toArray⟩) w := by
  have hcells := h.cells rfl
  obtain ⟨A', n', c', hv, hl, hc, hm, hx⟩ := h
  injection hv with e1 e2 e3
  subst e1 e2 e3
  simp only [List.length_map] at hl
  subst hl
  rcases A with _ | a
  · have : xs = [] := by
      rcases Nat.eq_zero_or_pos xs.length with h0 | h0
      · exact List.eq_nil_of_length_eq_zero h0
      · obtain ⟨_, _, h, _⟩ := hx h0; cases h
    subst this
    exact Lib.run_convert_nil_bytes w src dst e c hs he hd
  · exact run_convert_bytes_back w src dst e a c xs hs he hd (fun j hj => hcells a rfl j _ (by simp [hj, B8]))

theorem slice_lh {P : Program} (t e : TypeId) (ht : P.underlying t = some (.slice e)) (hsz : ∀ w, (sizeOf e).run P w = .ok 1 w) (A : Option Addr) (len c l h : Nat) (h1 : l ≤ h) (h2 : h ≤ c) (w : World) :
    (Instr.slice t (.slice A len c) (some (.int .i64 (l : Int))) (some (.int .i64 (h : Int))) none).run P w = .ok (.slice (if c = l then A else A.map (·.add (l * 1))) (h - l) (c - l)) w := by
  simp [Instr.slice, run_underlying ht, Instr.sliceBounds, run_sliceBound, h1, h2, hsz]

theorem RdrAt.rd {w : World} {F : Nat → Prop} {b : Nat} {all : List UInt8} {pos : Nat} (h : RdrAt w F b all pos) : ∃ A c, w.cell? ⟨b, 0, none⟩ = some (.slice A all.length c) ∧ Rd w (fun _ => True) (.slice A all.length c) (all.map B8) := by
  obtain ⟨v, h1, h2, h3, h4, h5⟩ := h
  obtain ⟨A, c, rfl⟩ := ownsRow_slice h4
  exact ⟨A, c, by simp [World.cell?, h1], Rd.of_own h4 (fun _ _ => trivial)⟩

def TextP (most : Nat) (F : Nat → Prop) (b : Nat) (all : List UInt8) (pos : Nat) (stay : Bool) (w : World) (e : Ending) (w' : World) : Prop :=
  Only (fun k => k = b) w w' ∧ match rdT most (all.drop pos) with
    | some (t, rest) => e = .returned (.tuple #[.string ⟨t.toArray⟩, .int .i64 0]) ∧ ∃ p', rest = all.drop p' ∧ pos ≤ p' ∧ RdrAt w' F b all p'
    | none => (∃ ec : Int, (ec = 10 ∨ ec = 11 ∨ ec = 23) ∧ e = .returned (.tuple #[.string ⟨#[]⟩, .int .i64 ec])) ∧ ∃ p', (stay = true → p' = pos) ∧ RdrAt w' F b all p'

set_option maxRecDepth 100000 in
set_option maxHeartbeats 1000000 in
theorem tread_ok (w : World) (F : Nat → Prop) (b : Nat) (all : List UInt8) (pos most : Nat) (h : RdrAt w F b all pos) (hmost : most ≤ 65536) :
    Calls Tryz.prog 113 #[.agg #[.pointer (some ⟨b, 0, none⟩), .int .i64 most]] w (TextP most F b all pos false w) := by
  have hblk0 := heap_alloc_new w (.cells #[.pointer (some ⟨b, 0, none⟩), .int .i64 most] 175)
  have hO0 : Only (fun k => k = b) w (w.alloc (.cells #[.pointer (some ⟨b, 0, none⟩), .int .i64 most] 175)) := (Only.refl _ _).alloc _
  have h0 := h.below ((Below.refl w.heap.size w).alloc (Nat.le_refl _) (.cells #[.pointer (some ⟨b, 0, none⟩), .int .i64 most] 175))
  obtain ⟨_, _, _, _, _, hb, _⟩ := h.at_
  have H0 := Lib.hid (And.intro hblk0 (And.intro hO0 h0))
  clear hblk0 hO0 h0 h
  go_enter Tryz.func113, Tryz.ntmps113
  go_wp2_with fail
  generalize w.alloc (.cells #[.pointer (some ⟨b, 0, none⟩), .int .i64 most] 175) = w0 at *
  refine (unsigned_ok w0 F b all pos H0.out.2.2).mono ?_
  rintro e w1 ⟨ho1, hm⟩
  have hne : w.heap.size ≠ b := by omega
  have hb1 : w1.heap[w.heap.size]? = some (.cells #[.pointer (some ⟨b, 0, none⟩), .int .i64 most] 175 (0, 0)) := ho1.heap H0.out.1 hne
  have hO1 : Only (fun k => k = b) w w1 := H0.out.2.1.trans ho1 (fun _ _ h => h)
  have t0 : w1.cell? ⟨w.heap.size, 0, none⟩ = some (.pointer (some ⟨b, 0, none⟩)) := by simp [World.cell?, hb1]
  have t1 : w1.cell? ⟨w.heap.size, 1, none⟩ = some (.int .i64 most) := by simp [World.cell?, hb1]
  have H1 := Lib.hid (And.intro hb1 hO1)
  clear ho1 hb1 hO1 H0
  cases hg : rdU (all.drop pos) with
  | none =>
    rw [hg] at hm
    obtain ⟨⟨ec, hec, rfl⟩, p', hr⟩ := hm
    have hT : rdT most (all.drop pos) = none := by simp [rdT, hg]
    have HG := Lib.hid hT
    have hne0 : (ec != 0) = true := by rcases hec with rfl | rfl <;> rfl
    clear hg hT
    go_wp2_with fail
    go_ret2
    refine ⟨H1.out.2, ?_⟩
    rw [HG.out]
    exact ⟨⟨ec, hec.imp_right .inl, rfl⟩, p', (fun h => by cases h), hr⟩
  | some x =>
    obtain ⟨n, rest⟩ := x
    rw [hg] at hm
    obtain ⟨rfl, p', hrest, hpp, hr⟩ := hm
    have hn63 := (rdU_inv hg).2
    have HG := Lib.hid (And.intro hg hrest)
    clear hg
    by_cases hmo : n ≤ most
    · obtain ⟨A, c, hc0, hc1, hf1, hb1, hpl, hcl, hcm, _⟩ := hr.at_
      have hrl : rest.length = all.length - p' := by rw [hrest]; simp
      unfold maxLen at hcm
      clear hrest
      go_wp2_with fail
      refine (left_ok w1 F b all p' hr).mono ?_
      rintro e w2 ⟨rfl, ho2⟩
      have hl0 : ((all.length - p' : Nat) : Int) = (all.length : Int) - (p' : Int) := by omega
      rw [hl0]
      have u0 := ho2.cell t0 id
      have u1 := ho2.cell t1 id
      have v0 := ho2.cell hc0 id
      have v1 := ho2.cell hc1 id
      have hr2 := hr.only ho2 (fun _ _ => id)
      have vz : w2.frozen? ⟨b, 1, none⟩ = false := by
        obtain ⟨_, _, _, _, hz, _⟩ := hr2.at_
        exact hz
      have hO2 : Only (fun k => k = b) w w2 := H1.out.2.trans ho2 (fun _ _ h => h.elim)
      have H2 := Lib.hid (And.intro hr2 hO2)
      clear hl0 ho2 hr2 hO2 t0 t1 hc0 hc1 hf1
      by_cases hle : n ≤ all.length - p'
      · have hrd2 := H2.out.1.rd
        obtain ⟨A0, c0, hcc, hrd0⟩ := hrd2
        rw [v0] at hcc
        injection hcc with hcc
        injection hcc with e1 _ e3
        subst e1 e3
        have hcut := rd_cut hrd0 p' n (by omega)
        have hsl := slice_lh (P := Tryz.prog) 31 5 Tryz.underlying31 (fun _ => by kernel_rfl) A all.length c p' (p' + n) (by omega) (by omega)
        rw [show p' + n - p' = n by omega] at hsl
        have emap : (all.map B8).drop p' = ((all.drop p').map B8) := by simp
        rw [emap, ← List.map_take] at hcut
        generalize (if c = p' then A else A.map (·.add (p' * 1))) = A2 at *
        generalize c - p' = c2 at *
        have hcv : ∀ k, (convert 31 9 (.slice A2 n c2)).run Tryz.prog (w2.drewN k) = .ok (.string ⟨((all.drop p').take n).toArray⟩) (w2.drewN k) := fun k =>
          conv_rd 31 9 5 Tryz.underlying31 Tryz.underlying5 Tryz.underlying9 (hcut.drewN k)
        have hT : rdT most (all.drop pos) = some ((all.drop p').take n, all.drop (p' + n)) := by
          simp only [rdT, HG.out.1]
          rw [if_pos (by omega), HG.out.2]
          simp
        have HT := Lib.hid hT
        generalize (all.drop p').take n = t at *
        have ecast : ((p' + n : Nat) : Int) = (p' : Int) + (n : Int) := by omega
        rw [ecast] at hsl
        clear hT hcut hrd0 emap
        go_wp2_with fail
        go_quiet (fail)
        obtain ⟨w3, hw3⟩ : ∃ w3, w2.drewN nq = w3 := ⟨_, rfl⟩
        rw [hw3]
        have hq3 := drewN_only2 hw3
        have x0 := hq3.cell u0 id
        have x1 := hq3.cell v1 id
        have xz : w3.frozen? ⟨b, 1, none⟩ = false := by rw [← hw3]; exact vz
        have hr3 := (H2.out.1.only hq3 (fun _ _ => id)).set (p' + n) (by omega)
        have hO3 : Only (fun k => k = b) w (w3.setCell ⟨b, 1, none⟩ (.int .i64 ((p' + n : Nat) : Int))) := Only.setCell (H2.out.2.trans hq3 (fun _ _ h => h.elim)) (p := ⟨b, 1, none⟩) (fun _ => rfl) _
        rw [ecast] at hr3 hO3
        have H3 := Lib.hid (And.intro hr3 hO3)
        clear hr3 hO3 hw3 hcv hsl u0 u1 v0 v1 vz hq3
        go_wp2_with fail
        go_ret2
        refine ⟨H3.out.2, ?_⟩
        rw [HT.out]
        exact ⟨rfl, p' + n, rfl, by omega, H3.out.1⟩
      · have hT : rdT most (all.drop pos) = none := by
          simp only [rdT, HG.out.1]
          rw [if_neg (by omega)]
        have HT := Lib.hid hT
        clear hT
        go_wp2_with fail
        go_ret2
        refine ⟨H2.out.2, ?_⟩
        rw [HT.out]
        exact ⟨⟨11, .inr (.inl rfl), rfl⟩, p', (fun h => by cases h), H2.out.1⟩
    · have hT : rdT most (all.drop pos) = none := by
        simp only [rdT, HG.out.1]
        rw [if_neg (by omega)]
      have HT := Lib.hid hT
      clear hT hrest
      go_wp2_with fail
      go_ret2
      refine ⟨H1.out.2, ?_⟩
      rw [HT.out]
      exact ⟨⟨23, .inr (.inr rfl), rfl⟩, p', (fun h => by cases h), hr⟩

theorem rtext_ok (w : World) (F : Nat → Prop) (b : Nat) (all : List UInt8) (pos most : Nat) (h : RdrAt w F b all pos) (hmost : most ≤ 65536) :
    Calls Tryz.prog 112 #[.pointer (some ⟨b, 0, none⟩), .func (.func 113) #[.agg #[.pointer (some ⟨b, 0, none⟩), .int .i64 most]] #[]] w (TextP most F b all pos true w) := by
  have H := Lib.hid h
  obtain ⟨A, c, hc0, hc1, hf1, hb, hpl, hcl, hcm, _⟩ := h.at_
  clear h hc0 hf1
  go_enter Tryz.func112, Tryz.ntmps112
  go_wp2_with fail
  refine (tread_ok w F b all pos most H.out hmost).mono ?_
  rintro e w1 ⟨ho, hm⟩
  cases hg : rdT most (all.drop pos) with
  | none =>
    rw [hg] at hm
    obtain ⟨⟨ec, hec, rfl⟩, p', _, hr⟩ := hm
    have HG := Lib.hid (And.intro hg ho)
    have hne : (ec != 0) = true := by rcases hec with rfl | rfl | rfl <;> rfl
    clear hg ho
    go_wp2_with fail
    refine (back_ok w1 F b all p' pos hr hpl).mono ?_
    rintro e w2 ⟨rfl, ho2, hr2⟩
    have HR := Lib.hid (And.intro ho2 hr2)
    clear ho2 hr2
    go_wp2_with fail
    go_ret2
    refine ⟨HG.out.2.trans HR.out.1 (fun _ _ h => h), ?_⟩
    rw [HG.out.1]
    exact ⟨⟨ec, hec, rfl⟩, pos, fun _ => rfl, HR.out.2⟩
  | some x =>
    obtain ⟨n, rest⟩ := x
    rw [hg] at hm
    obtain ⟨rfl, p', hrest, hpp, hr⟩ := hm
    have HG := Lib.hid (And.intro hg (And.intro ho hrest))
    clear hg ho hrest
    go_wp2_with fail
    go_ret2
    refine ⟨HG.out.2.1, ?_⟩
    rw [HG.out.1]
    exact ⟨rfl, p', HG.out.2.2, hpp, hr⟩

theorem Text_ok (w : World) (F : Nat → Prop) (b : Nat) (all : List UInt8) (pos most : Nat) (h : RdrAt w F b all pos) (hmost : most ≤ 65536) :
    Calls Tryz.prog 90 #[.pointer (some ⟨b, 0, none⟩), .int .i64 most] w (TextP most F b all pos true w) := by
  have H := Lib.hid h
  clear h
  go_enter Tryz.func90, Tryz.ntmps90
  go_wp2_with fail
  refine (rtext_ok w F b all pos most H.out hmost).mono ?_
  rintro e w1 hP
  have HP := Lib.hid hP
  obtain ⟨ho, hm⟩ := hP
  cases hg : rdT most (all.drop pos) with
  | none =>
    rw [hg] at hm
    obtain ⟨⟨ec, hec, rfl⟩, hr⟩ := hm
    clear hg
    go_wp2_with fail
    go_ret2
    exact HP.out
  | some x =>
    obtain ⟨n, rest⟩ := x
    rw [hg] at hm
    obtain ⟨rfl, _⟩ := hm
    clear hg
    go_wp2_with fail
    go_ret2
    exact HP.out

theorem read_ok (w : World) (F : Nat → Prop) (v : Value) (all : List UInt8) (hr : Rd w F v (all.map B8)) (hl : all.length ≤ 140737488355328) :
    Calls Tryz.prog 55 #[v] w fun e w' => ∃ b, e = .returned (.pointer (some ⟨b, 0, none⟩)) ∧ Below w.heap.size w w' ∧ RdrAt w' (fun k => w.heap.size ≤ k) b all 0 := by
  obtain ⟨A, n, c, rfl, _⟩ := id hr
  have HR := Lib.hid hr
  clear hr
  go_enter Tryz.func55, Tryz.ntmps55
  go_wp2_with fail
  refine (clone_bytes _ _ F _ HR.out (B8_one all) (by simpa using hl)).mono ?_
  rintro e w1 ⟨Ax, cx, rfl, hx, hbl⟩
  rw [List.length_map] at hx ⊢
  have HX := Lib.hid (And.intro hx hbl)
  clear hx hbl
  go_wp2_with fail
  go_ret
  have hsz := HX.out.2.size
  refine ⟨w1.heap.size, rfl, HX.out.2.alloc hsz _, .slice Ax all.length cx, heap_alloc_new _ _, hsz, Nat.zero_le _, own_base (HX.out.1.alloc _) (fun _ _ => Nat.zero_le _), fun g hg => ⟨(HX.out.1.lt g hg).1, ?_⟩⟩
  have := (HX.out.1.lt g hg).2
  omega

end Go.Proofs.YtihjcfifakcpgaaGreatDoor

/- Numbers with a sign: Writer.Int, Reader.Int. -/
namespace Go.Proofs.YtihjcfifakcpgaaGreatDoor
set_option maxRecDepth 100000
open Go.RowKit

/-- A number with a sign as one without. -/
def zig (n : Int) : Nat := if n < 0 then 2 * (-1 - n).toNat + 1 else 2 * n.toNat
/-- A number without a sign as one with it. -/
def zag (n : Nat) : Int := if n % 2 = 1 then -1 - ((n / 2 : Nat) : Int) else ((n / 2 : Nat) : Int)
theorem zag_zig (n : Int) : zag (zig n) = n := by
  unfold zag zig
  split <;> split <;> omega
theorem zig_zag (n : Nat) : zig (zag n) = n := by
  unfold zag zig
  split <;> split <;> omega
theorem zig_lt {n : Int} (h1 : -9223372036854775808 ≤ n) (h2 : n ≤ 9223372036854775807) : zig n < 18446744073709551616 := by
  unfold zig
  split <;> omega
theorem zag_bd {n : Nat} (h : n < 18446744073709551616) : -9223372036854775808 ≤ zag n ∧ zag n ≤ 9223372036854775807 := by
  unfold zag
  split <;> omega
/-- A number with a sign is read. -/
def rdI (bs : List UInt8) : Option (Int × List UInt8) := (rdG 0 0 bs).map fun x => (zag x.1, x.2)

theorem int_ok (w : World) (F : Nat → Prop) (b : Nat) (bs : List UInt8) (h : WrAt w F b bs) (n : Int) (h1 : -9223372036854775808 ≤ n) (h2 : n ≤ 9223372036854775807) (hlen : bs.length ≤ 1000000000) :
    Calls Tryz.prog 41 #[.pointer (some ⟨b, 0, none⟩), .int .i64 n] w (WroteP 0 F b (bs ++ leb (zig n)) w) := by
  have H := Lib.hid h
  have hz := zig_lt h1 h2
  clear h
  by_cases hn : n < 0
  · have hg := groups_ok w F b bs H.out (zig n) hz hlen
    have e : ((zig n : Nat) : Int) = 2 * (-1 - n) + 1 := by unfold zig; rw [if_pos hn]; omega
    rw [e] at hg
    have HG := Lib.hid hg
    clear hg hz e
    go_enter Tryz.func41, Tryz.ntmps41
    go_wp2_with fail
    refine HG.out.mono ?_
    rintro e w1 ⟨rfl, ho, F', hw, hF'⟩
    go_wp2_with fail
    go_ret
    exact ⟨rfl, ho, F', hw, hF'⟩
  · have hg := groups_ok w F b bs H.out (zig n) hz hlen
    have e : ((zig n : Nat) : Int) = 2 * n := by unfold zig; rw [if_neg hn]; omega
    rw [e] at hg
    have HG := Lib.hid hg
    clear hg hz e
    go_enter Tryz.func41, Tryz.ntmps41
    go_wp2_with fail
    refine HG.out.mono ?_
    rintro e w1 ⟨rfl, ho, F', hw, hF'⟩
    go_wp2_with fail
    go_ret
    exact ⟨rfl, ho, F', hw, hF'⟩

def SgnP (F : Nat → Prop) (b : Nat) (all : List UInt8) (pos : Nat) (w : World) (e : Ending) (w' : World) : Prop :=
  Only (fun k => k = b) w w' ∧ match rdI (all.drop pos) with
    | some (n, rest) => e = .returned (.tuple #[.int .i64 n, .int .i64 0]) ∧ ∃ p', rest = all.drop p' ∧ pos ≤ p' ∧ RdrAt w' F b all p'
    | none => e = .returned (.tuple #[.int .i64 0, .int .i64 11]) ∧ ∃ p', RdrAt w' F b all p'

theorem signed_ok (w : World) (F : Nat → Prop) (b : Nat) (all : List UInt8) (pos : Nat) (h : RdrAt w F b all pos) :
    Calls Tryz.prog 111 #[.pointer (some ⟨b, 0, none⟩)] w (SgnP F b all pos w) := by
  have H := Lib.hid h
  clear h
  go_enter Tryz.func111, Tryz.ntmps111
  go_wp2_with fail
  refine (rgroups_ok w F b all pos H.out).mono ?_
  rintro e w1 ⟨ho, hm⟩
  cases hg : rdG 0 0 (all.drop pos) with
  | none =>
    rw [hg] at hm
    obtain ⟨rfl, p', hr⟩ := hm
    have HU := Lib.hid (show rdI (all.drop pos) = none by simp [rdI, hg])
    clear hg
    go_wp2_with fail
    go_ret2
    refine ⟨ho, ?_⟩
    rw [HU.out]
    exact ⟨rfl, p', hr⟩
  | some x =>
    obtain ⟨n, rest⟩ := x
    rw [hg] at hm
    obtain ⟨rfl, p', hrest, hpp, hr⟩ := hm
    have hn : n < 18446744073709551616 := by
      obtain ⟨m, hm, _, hlt, _⟩ := rdG_inv _ 0 0 n rest (by omega) hg
      simp at hm hlt
      omega
    have HU := Lib.hid (And.intro (show rdI (all.drop pos) = some (zag n, rest) by simp [rdI, hg]) hrest)
    have ha := and_one_u64 (n : Int) (by omega) (by omega)
    clear hg hrest
    by_cases hodd : n % 2 = 1
    · have ho2 : (n : Int) % 2 = 1 := by omega
      have HZ := Lib.hid (show zag n = -1 - (n : Int) / 2 by unfold zag; rw [if_pos hodd]; omega)
      clear hodd
      go_wp2_with fail
      go_ret2
      refine ⟨ho, ?_⟩
      rw [HU.out.1]
      refine ⟨?_, p', HU.out.2, hpp, hr⟩
      rw [HZ.out]
      rfl
    · have ho2 : ((n : Int) % 2 == 1) = false := by simp; omega
      have HZ := Lib.hid (show zag n = (n : Int) / 2 by unfold zag; rw [if_neg hodd]; omega)
      clear hodd
      go_wp2_with fail
      go_ret2
      refine ⟨ho, ?_⟩
      rw [HU.out.1]
      refine ⟨?_, p', HU.out.2, hpp, hr⟩
      rw [HZ.out]
      rfl

def IntP (F : Nat → Prop) (b : Nat) (all : List UInt8) (pos : Nat) (w : World) (e : Ending) (w' : World) : Prop :=
  Only (fun k => k = b) w w' ∧ match rdI (all.drop pos) with
    | some (n, rest) => e = .returned (.tuple #[.int .i64 n, .int .i64 0]) ∧ ∃ p', rest = all.drop p' ∧ pos ≤ p' ∧ RdrAt w' F b all p'
    | none => e = .returned (.tuple #[.int .i64 0, .int .i64 11]) ∧ RdrAt w' F b all pos

theorem rsint_ok (w : World) (F : Nat → Prop) (b : Nat) (all : List UInt8) (pos : Nat) (h : RdrAt w F b all pos) :
    Calls Tryz.prog 109 #[.pointer (some ⟨b, 0, none⟩), .func (.func 111) #[.pointer (some ⟨b, 0, none⟩)] #[]] w (IntP F b all pos w) := by
  have H := Lib.hid h
  obtain ⟨A, c, hc0, hc1, hf1, hb, hpl, hcl, hcm, _⟩ := h.at_
  clear h hc0 hf1
  go_enter Tryz.func109, Tryz.ntmps109
  go_wp2_with fail
  refine (signed_ok w F b all pos H.out).mono ?_
  rintro e w1 ⟨ho, hm⟩
  cases hg : rdI (all.drop pos) with
  | none =>
    rw [hg] at hm
    obtain ⟨rfl, p', hr⟩ := hm
    have HG := Lib.hid (And.intro hg ho)
    clear hg ho
    go_wp2_with fail
    refine (back_ok w1 F b all p' pos hr hpl).mono ?_
    rintro e w2 ⟨rfl, ho2, hr2⟩
    have HR := Lib.hid (And.intro ho2 hr2)
    clear ho2 hr2
    go_wp2_with fail
    go_ret2
    refine ⟨HG.out.2.trans HR.out.1 (fun _ _ h => h), ?_⟩
    rw [HG.out.1]
    exact ⟨rfl, HR.out.2⟩
  | some x =>
    obtain ⟨n, rest⟩ := x
    rw [hg] at hm
    obtain ⟨rfl, p', hrest, hpp, hr⟩ := hm
    have HG := Lib.hid (And.intro hg (And.intro ho hrest))
    clear hg ho hrest
    go_wp2_with fail
    go_ret2
    refine ⟨HG.out.2.1, ?_⟩
    rw [HG.out.1]
    exact ⟨rfl, p', HG.out.2.2, hpp, hr⟩

theorem Int_ok (w : World) (F : Nat → Prop) (b : Nat) (all : List UInt8) (pos : Nat) (h : RdrAt w F b all pos) :
    Calls Tryz.prog 83 #[.pointer (some ⟨b, 0, none⟩)] w (IntP F b all pos w) := by
  have H := Lib.hid h
  clear h
  go_enter Tryz.func83, Tryz.ntmps83
  go_wp2_with fail
  refine (rsint_ok w F b all pos H.out).mono ?_
  rintro e w1 hP
  have HP := Lib.hid hP
  obtain ⟨ho, hm⟩ := hP
  cases hg : rdI (all.drop pos) with
  | none =>
    rw [hg] at hm
    obtain ⟨rfl, hr⟩ := hm
    clear hg
    go_wp2_with fail
    go_ret2
    exact HP.out
  | some x =>
    obtain ⟨n, rest⟩ := x
    rw [hg] at hm
    obtain ⟨rfl, _⟩ := hm
    clear hg
    go_wp2_with fail
    go_ret2
    exact HP.out
end Go.Proofs.YtihjcfifakcpgaaGreatDoor
