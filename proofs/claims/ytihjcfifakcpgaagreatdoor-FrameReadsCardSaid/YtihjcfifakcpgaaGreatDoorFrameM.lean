/- One claim that is read into cells. -/
import Derived.Test.YtihjcfifakcpgaaGreatDoorFrameL
namespace Go.Proofs.YtihjcfifakcpgaaGreatDoor
set_option maxRecDepth 100000
open Go.RowKit

/-- One claim is read. -/
def rdCl (bs : List UInt8) : Option (Cl × List UInt8) :=
  match rdNs rdUI 1 bs with
  | some ([mk], r) => if mk ≤ 1 then match rdNs rdI 1 r with
      | some ([col], r2) => match rdT 16 r2 with
        | some (key, r3) => match rdNs rdI 2 r3 with
          | some ([lo, hi], r4) => some (⟨decide (mk = 1), col, key, lo, hi⟩, r4)
          | _ => none
        | none => none
      | _ => none
    else none
  | _ => none
def putCl (m : Nat) (c : Cl) (cs : Array Value) : Array Value := setMany (((setMany cs [m + 1] [c.col]).setIfInBounds m (.bool c.wr)).setIfInBounds (m + 2) (.string ⟨c.key.toArray⟩)) [m + 3, m + 4] [c.lo, c.hi]

section
variable {F : Nat → Prop} {b : Nat} {all : List UInt8} {B5 B6 X1 X2 T : Nat} {t : TypeId} {p : Nat} {cs : Array Value} {w w' : World}
theorem RdQ.setc (h : RdQ F b all B5 B6 X1 X2 T t p cs w) (o : Nat) (v : Value) : RdQ F b all B5 B6 X1 X2 T t p (cs.setIfInBounds o v) (w.setCell ⟨T, o, none⟩ v) := by
  have ho := Only.set1 w T o v
  have hnb := h.nb
  obtain ⟨h1, h2, h3, h4, h5, h6, h7⟩ := h
  exact ⟨h1.only ho (fun k hk e => h4 (e ▸ hk)), h2.only ho h6.1 h6.2.1 h6.2.2.1 h6.2.2.2, by simp [World.setCell, Array.getElem?_modify, h3], h4, h5, h6, fun k hk => Nat.lt_of_lt_of_le (h7 k hk) ho.size⟩
theorem RdQ.text {p' : Nat} (h : RdQ F b all B5 B6 X1 X2 T t p cs w) (ho : Only (fun k => k = b) w w') (hr : RdrAt w' F b all p') : RdQ F b all B5 B6 X1 X2 T t p' cs w' := by
  have hnb := h.nb
  obtain ⟨h1, h2, h3, h4, h5, h6, h7⟩ := h
  exact ⟨hr, h2.only ho h5.1 h5.2.1 h5.2.2.1 h5.2.2.2, ho.heap h3 hnb, h4, h5, h6, fun k hk => Nat.lt_of_lt_of_le (h7 k hk) ho.size⟩
end

set_option maxRecDepth 100000 in
set_option maxHeartbeats 8000000 in
theorem one_cl (F : Nat → Prop) (b : Nat) (all : List UInt8) (B5 B6 X1 X2 T B3 : Nat) (t : TypeId) (p0 m : Nat) (cs : Array Value) (w : World) (h : RdQ F b all B5 B6 X1 X2 T t p0 cs w) (hm : m + 5 ≤ cs.size)
    (h3 : w.cell? ⟨B3, 0, none⟩ = some (.pointer (some ⟨b, 0, none⟩))) (hB3 : B3 ≠ b ∧ B3 ≠ T) :
    Calls Tryz.prog 89 #[.pointer (some ⟨T, m, none⟩), .pointer (some ⟨B5, 0, none⟩), .pointer (some ⟨B6, 0, none⟩), .pointer (some ⟨B3, 0, none⟩)] w (OneQ rdCl (putCl m) F b all B5 B6 X1 X2 T t p0 cs w) := by
  obtain ⟨N0, hN0⟩ : ∃ N, cs.size = N := ⟨_, rfl⟩
  have HSZ := Lib.hid hN0
  rw [hN0] at hm
  clear hN0
  have hbx := one_box w (.cells #[.int .i64 0] 3)
  have hq7 := h.box #[.int .i64 0] 3
  have hq1 := h.below hbx
  have c3 := cell_alloc_any h3 (.cells #[.int .i64 0] 3)
  have hne : T ≠ b ∧ T ≠ w.heap.size := ⟨h.nb, by have := h.lt; omega⟩
  have hB3l : B3 < w.heap.size := World.block_lt_of_cell? _ _ h3
  have hbl := h.blt
  have HB3 := Lib.hid (And.intro hB3 (show B3 ≠ w.heap.size by omega))
  have hb7 : b ≠ w.heap.size := by omega
  clear h h3 hB3
  go_enter Tryz.func89, Tryz.ntmps89
  go_upto_region 2 with fail
  generalize w.alloc (.cells #[.int .i64 0] 3) = w1 at hbx hq7 hq1 c3 ⊢
  obtain ⟨T7, hT7⟩ : ∃ x, w.heap.size = x := ⟨_, rfl⟩
  rw [hT7] at hq7 hne HB3 hb7 hB3l ⊢
  have HT7 := Lib.hid hT7
  have HBX := Lib.hid hbx
  have hs7 := hq7
  have HM := Lib.hid (hq7.below (Below.refl w1.heap.size w1).drew)
  have HQ1 := Lib.hid (hq1.below (Below.refl w1.heap.size w1).drew)
  have HNE := Lib.hid hne
  clear hbx hq1 hne hT7 hbl
  refine wp_region_held_drew (S := (fun w' => w'.cell? ⟨B5, 0, none⟩ = some (.func (.func 108) #[] #[.pointer (some ⟨X1, 0, none⟩)]) ∧ w'.cell? ⟨B6, 0, none⟩ = some (.func (.func 108) #[] #[.pointer (some ⟨X2, 0, none⟩)]))) (by kernel_rfl) ⟨(((Below.refl _ _).drew).cell (p := ⟨B5, 0, none⟩) (World.block_lt_of_cell? _ _ hs7.2.1.1)).trans hs7.2.1.1, (((Below.refl _ _).drew).cell (p := ⟨B6, 0, none⟩) (World.block_lt_of_cell? _ _ hs7.2.1.2.1)).trans hs7.2.1.2.1⟩ (fun hHeld => ?_)
  refine take_lit (i := 0) (v := ?_) rfl (by kernel_rfl) (by kernel_rfl) (by kernel_rfl) (fun _ _ _ h => h) (by rfl) (fun wS hSw => ?_) hHeld ?_
  rotate_left
  · obtain ⟨s0, s1⟩ := hSw; go_simp; try with_reducible rfl
  try simp only [Act.put, List.setIfInBounds_toArray, List.set_cons_zero, List.set_cons_succ]
  refine wpAnyH_ready (rs := [1]) (by kernel_rfl) (by simp) (cons_lit (i := 1) rfl (fun K hK => ?_) AllReadyH.nil)
  go_simp
  refine hK.out _ _ (⟨cell_alloc_any hHeld.1 _, cell_alloc_any hHeld.2 _⟩) (fun hHeld2 => ?_)
  clear hK K hHeld
  have hHeld := hHeld2
  clear hHeld2
  try simp only [Act.put, List.setIfInBounds_toArray, List.set_cons_zero, List.set_cons_succ]
  refine wpAnyH_ready (rs := [2]) (by kernel_rfl) (by simp) (cons_lit (i := 2) rfl (fun K hK => ?_) AllReadyH.nil)
  go_simp
  refine (call_u HM.out [0] _ rfl 1 rfl (by simp) (by intro o ho; simp at ho; subst ho; decide)).mono ?_
  rintro e wn hq
  have ho1 : Only (fun k => k = b ∨ k = T7) w1.drew wn := hq.1
  have HON1 := Lib.hid ho1
  have hsb := step_box hq
  clear hq ho1
  rcases hsb with ⟨rfl, hg0, pE, csX, hqm⟩ | ⟨mk, p1, rfl, hmk, hg0, hqm⟩
  · skip
    have HQM := Lib.hid hqm
    have HQE := Lib.hid (HQ1.out.back HON1.out HNE.out hqm)
    have HNO := Lib.hid (show rdCl (all.drop p0) = none by simp only [rdCl, hg0])
    clear hqm hg0
    try go_simp
    refine hK.out _ _ (⟨HQM.out.2.1.1, HQM.out.2.1.2.1⟩) (fun hHeld2 => ?_)
    clear hK K hHeld 
    have hHeld := hHeld2
    clear hHeld2
    try simp only [Act.put, List.setIfInBounds_toArray, List.set_cons_zero, List.set_cons_succ]
    refine take_lit (i := 3) (v := ?_) rfl (by kernel_rfl) (by kernel_rfl) (by kernel_rfl) (fun _ _ _ h => h) (by rfl) (fun wS hSw => ?_) hHeld ?_
    rotate_left
    · obtain ⟨s0, s1⟩ := hSw; go_simp; try with_reducible rfl
    try simp only [Act.put, List.setIfInBounds_toArray, List.set_cons_zero, List.set_cons_succ]
    refine take_lit (i := 4) (v := ?_) rfl (by kernel_rfl) (by kernel_rfl) (by kernel_rfl) (fun _ _ _ h => h) (by rfl) (fun wS hSw => ?_) hHeld ?_
    rotate_left
    · obtain ⟨s0, s1⟩ := hSw; go_simp; try with_reducible rfl
    try simp only [Act.put, List.setIfInBounds_toArray, List.set_cons_zero, List.set_cons_succ]
    refine take_no (i := 5) rfl (by kernel_rfl) (by kernel_rfl) (by kernel_rfl) (fun _ _ _ h => h) (by rfl) hHeld ?_
    try simp only [Act.put, List.setIfInBounds_toArray, List.set_cons_zero, List.set_cons_succ]
    refine take_no (i := 6) rfl (by kernel_rfl) (by kernel_rfl) (by kernel_rfl) (fun _ _ _ h => h) (by rfl) hHeld ?_
    try simp only [Act.put, List.setIfInBounds_toArray, List.set_cons_zero, List.set_cons_succ]
    refine take_lit (i := 7) (v := ?_) rfl (by kernel_rfl) (by kernel_rfl) (by kernel_rfl) (fun _ _ _ h => h) (by rfl) (fun wS hSw => ?_) hHeld ?_
    rotate_left
    · obtain ⟨s0, s1⟩ := hSw; go_simp; try with_reducible rfl
    try simp only [Act.put, List.setIfInBounds_toArray, List.set_cons_zero, List.set_cons_succ]
    refine take_lit (i := 8) (v := ?_) rfl (by kernel_rfl) (by kernel_rfl) (by kernel_rfl) (fun _ _ _ h => h) (by rfl) (fun wS hSw => ?_) hHeld ?_
    rotate_left
    · obtain ⟨s0, s1⟩ := hSw; go_simp; try with_reducible rfl
    try simp only [Act.put, List.setIfInBounds_toArray, List.set_cons_zero, List.set_cons_succ]
    refine take_no (i := 9) rfl (by kernel_rfl) (by kernel_rfl) (by kernel_rfl) (fun _ _ _ h => h) (by rfl) hHeld ?_
    try simp only [Act.put, List.setIfInBounds_toArray, List.set_cons_zero, List.set_cons_succ]
    refine take_no (i := 10) rfl (by kernel_rfl) (by kernel_rfl) (by kernel_rfl) (fun _ _ _ h => h) (by rfl) hHeld ?_
    try simp only [Act.put, List.setIfInBounds_toArray, List.set_cons_zero, List.set_cons_succ]
    refine take_no (i := 11) rfl (by kernel_rfl) (by kernel_rfl) (by kernel_rfl) (fun _ _ _ h => h) (by rfl) hHeld ?_
    try simp only [Act.put, List.setIfInBounds_toArray, List.set_cons_zero, List.set_cons_succ]
    refine take_no (i := 12) rfl (by kernel_rfl) (by kernel_rfl) (by kernel_rfl) (fun _ _ _ h => h) (by rfl) hHeld ?_
    try simp only [Act.put, List.setIfInBounds_toArray, List.set_cons_zero, List.set_cons_succ]
    refine take_no (i := 13) rfl (by kernel_rfl) (by kernel_rfl) (by kernel_rfl) (fun _ _ _ h => h) (by rfl) hHeld ?_
    try simp only [Act.put, List.setIfInBounds_toArray, List.set_cons_zero, List.set_cons_succ]
    refine take_no (i := 14) rfl (by kernel_rfl) (by kernel_rfl) (by kernel_rfl) (fun _ _ _ h => h) (by rfl) hHeld ?_
    try simp only [Act.put, List.setIfInBounds_toArray, List.set_cons_zero, List.set_cons_succ]
    refine take_no (i := 15) rfl (by kernel_rfl) (by kernel_rfl) (by kernel_rfl) (fun _ _ _ h => h) (by rfl) hHeld ?_
    try simp only [Act.put, List.setIfInBounds_toArray, List.set_cons_zero, List.set_cons_succ]
    refine take_lit (i := 16) (v := ?_) rfl (by kernel_rfl) (by kernel_rfl) (by kernel_rfl) (fun _ _ _ h => h) (by rfl) (fun wS hSw => ?_) hHeld ?_
    rotate_left
    · obtain ⟨s0, s1⟩ := hSw; go_simp; try with_reducible rfl
    try simp only [Act.put, List.setIfInBounds_toArray, List.set_cons_zero, List.set_cons_succ]
    refine wpAnyH_done (by kernel_rfl) ?_ _
    have HO1 := Lib.hid ((Only.of_below HBX.out (fun k => k = b ∨ k = T)).trans (Only.undrew HON1.out) (fun k hk hh => hh.elim .inl (fun e => absurd e (by have := HT7.out; omega))))
    go_wp2_with fail
    go_ret
    refine ⟨HO1.out, ?_⟩
    rw [HNO.out]
    exact ⟨rfl, pE, cs, rfl, HQE.out⟩
  by_cases hmk1 : 1 < mk
  · skip
    have hmki : (1 : Int) < (mk : Int) := by omega
    have cm : wn.cell? ⟨T7, 0, none⟩ = some (.int .i64 (mk : Int)) := by have := hqm.2.2.1; simp [World.cell?, this]
    have HQM := Lib.hid hqm
    have HQE := Lib.hid (HQ1.out.back HON1.out HNE.out hqm)
    have HNO := Lib.hid (show rdCl (all.drop p0) = none by simp only [rdCl, hg0]; rw [if_neg (by omega)])
    clear hqm hg0 hmk1
    try go_simp
    refine hK.out _ _ (⟨HQM.out.2.1.1, HQM.out.2.1.2.1⟩) (fun hHeld2 => ?_)
    clear hK K hHeld 
    have hHeld := hHeld2
    clear hHeld2
    try simp only [Act.put, List.setIfInBounds_toArray, List.set_cons_zero, List.set_cons_succ]
    refine take_lit (i := 3) (v := ?_) rfl (by kernel_rfl) (by kernel_rfl) (by kernel_rfl) (fun _ _ _ h => h) (by rfl) (fun wS hSw => ?_) hHeld ?_
    rotate_left
    · obtain ⟨s0, s1⟩ := hSw; go_simp; try with_reducible rfl
    try simp only [Act.put, List.setIfInBounds_toArray, List.set_cons_zero, List.set_cons_succ]
    refine take_lit (i := 4) (v := ?_) rfl (by kernel_rfl) (by kernel_rfl) (by kernel_rfl) (fun _ _ _ h => h) (by rfl) (fun wS hSw => ?_) hHeld ?_
    rotate_left
    · obtain ⟨s0, s1⟩ := hSw; go_simp; try with_reducible rfl
    try simp only [Act.put, List.setIfInBounds_toArray, List.set_cons_zero, List.set_cons_succ]
    refine wpAnyH_ready (rs := [5]) (by kernel_rfl) (by simp) (cons_lit (i := 5) rfl (fun K hK => ?_) AllReadyH.nil)
    go_simp
    refine hK.out _ _ (hHeld) (fun hHeld2 => ?_)
    clear hK K hHeld
    have hHeld := hHeld2
    clear hHeld2
    try simp only [Act.put, List.setIfInBounds_toArray, List.set_cons_zero, List.set_cons_succ]
    refine take_lit (i := 6) (v := ?_) rfl (by kernel_rfl) (by kernel_rfl) (by kernel_rfl) (fun _ _ _ h => h) (by rfl) (fun wS hSw => ?_) hHeld ?_
    rotate_left
    · obtain ⟨s0, s1⟩ := hSw; go_simp; try with_reducible rfl
    try simp only [Act.put, List.setIfInBounds_toArray, List.set_cons_zero, List.set_cons_succ]
    refine take_lit (i := 7) (v := ?_) rfl (by kernel_rfl) (by kernel_rfl) (by kernel_rfl) (fun _ _ _ h => h) (by rfl) (fun wS hSw => ?_) hHeld ?_
    rotate_left
    · obtain ⟨s0, s1⟩ := hSw; go_simp; try with_reducible rfl
    try simp only [Act.put, List.setIfInBounds_toArray, List.set_cons_zero, List.set_cons_succ]
    refine take_lit (i := 8) (v := ?_) rfl (by kernel_rfl) (by kernel_rfl) (by kernel_rfl) (fun _ _ _ h => h) (by rfl) (fun wS hSw => ?_) hHeld ?_
    rotate_left
    · obtain ⟨s0, s1⟩ := hSw; go_simp; try with_reducible rfl
    try simp only [Act.put, List.setIfInBounds_toArray, List.set_cons_zero, List.set_cons_succ]
    refine take_no (i := 9) rfl (by kernel_rfl) (by kernel_rfl) (by kernel_rfl) (fun _ _ _ h => h) (by rfl) hHeld ?_
    try simp only [Act.put, List.setIfInBounds_toArray, List.set_cons_zero, List.set_cons_succ]
    refine take_no (i := 10) rfl (by kernel_rfl) (by kernel_rfl) (by kernel_rfl) (fun _ _ _ h => h) (by rfl) hHeld ?_
    try simp only [Act.put, List.setIfInBounds_toArray, List.set_cons_zero, List.set_cons_succ]
    refine take_no (i := 11) rfl (by kernel_rfl) (by kernel_rfl) (by kernel_rfl) (fun _ _ _ h => h) (by rfl) hHeld ?_
    try simp only [Act.put, List.setIfInBounds_toArray, List.set_cons_zero, List.set_cons_succ]
    refine take_no (i := 12) rfl (by kernel_rfl) (by kernel_rfl) (by kernel_rfl) (fun _ _ _ h => h) (by rfl) hHeld ?_
    try simp only [Act.put, List.setIfInBounds_toArray, List.set_cons_zero, List.set_cons_succ]
    refine take_no (i := 13) rfl (by kernel_rfl) (by kernel_rfl) (by kernel_rfl) (fun _ _ _ h => h) (by rfl) hHeld ?_
    try simp only [Act.put, List.setIfInBounds_toArray, List.set_cons_zero, List.set_cons_succ]
    refine take_no (i := 14) rfl (by kernel_rfl) (by kernel_rfl) (by kernel_rfl) (fun _ _ _ h => h) (by rfl) hHeld ?_
    try simp only [Act.put, List.setIfInBounds_toArray, List.set_cons_zero, List.set_cons_succ]
    refine take_no (i := 15) rfl (by kernel_rfl) (by kernel_rfl) (by kernel_rfl) (fun _ _ _ h => h) (by rfl) hHeld ?_
    try simp only [Act.put, List.setIfInBounds_toArray, List.set_cons_zero, List.set_cons_succ]
    refine take_lit (i := 16) (v := ?_) rfl (by kernel_rfl) (by kernel_rfl) (by kernel_rfl) (fun _ _ _ h => h) (by rfl) (fun wS hSw => ?_) hHeld ?_
    rotate_left
    · obtain ⟨s0, s1⟩ := hSw; go_simp; try with_reducible rfl
    try simp only [Act.put, List.setIfInBounds_toArray, List.set_cons_zero, List.set_cons_succ]
    refine wpAnyH_done (by kernel_rfl) ?_ _
    have HO1 := Lib.hid ((Only.of_below HBX.out (fun k => k = b ∨ k = T)).trans (Only.undrew HON1.out) (fun k hk hh => hh.elim .inl (fun e => absurd e (by have := HT7.out; omega))))
    go_wp2_with fail
    go_ret
    refine ⟨HO1.out, ?_⟩
    rw [HNO.out]
    exact ⟨rfl, p1, cs, rfl, HQE.out⟩
  · skip
    have hmki : ¬ ((1 : Int) < (mk : Int)) := by omega
    have HMK := Lib.hid (show mk ≤ 1 by omega)
    have cm : wn.cell? ⟨T7, 0, none⟩ = some (.int .i64 (mk : Int)) := by have := hqm.2.2.1; simp [World.cell?, this]
    have HQM := Lib.hid hqm
    have HQ2 := Lib.hid (HQ1.out.back HON1.out HNE.out hqm)
    have HG0 := Lib.hid hg0
    clear hqm hg0
    try go_simp
    refine hK.out _ _ (⟨HQM.out.2.1.1, HQM.out.2.1.2.1⟩) (fun hHeld2 => ?_)
    clear hK K hHeld 
    have hHeld := hHeld2
    clear hHeld2
    try simp only [Act.put, List.setIfInBounds_toArray, List.set_cons_zero, List.set_cons_succ]
    refine take_lit (i := 3) (v := ?_) rfl (by kernel_rfl) (by kernel_rfl) (by kernel_rfl) (fun _ _ _ h => h) (by rfl) (fun wS hSw => ?_) hHeld ?_
    rotate_left
    · obtain ⟨s0, s1⟩ := hSw; go_simp; try with_reducible rfl
    try simp only [Act.put, List.setIfInBounds_toArray, List.set_cons_zero, List.set_cons_succ]
    refine take_lit (i := 4) (v := ?_) rfl (by kernel_rfl) (by kernel_rfl) (by kernel_rfl) (fun _ _ _ h => h) (by rfl) (fun wS hSw => ?_) hHeld ?_
    rotate_left
    · obtain ⟨s0, s1⟩ := hSw; go_simp; try with_reducible rfl
    try simp only [Act.put, List.setIfInBounds_toArray, List.set_cons_zero, List.set_cons_succ]
    refine wpAnyH_ready (rs := [5]) (by kernel_rfl) (by simp) (cons_lit (i := 5) rfl (fun K hK => ?_) AllReadyH.nil)
    go_simp
    refine hK.out _ _ (hHeld) (fun hHeld2 => ?_)
    clear hK K hHeld
    have hHeld := hHeld2
    clear hHeld2
    try simp only [Act.put, List.setIfInBounds_toArray, List.set_cons_zero, List.set_cons_succ]
    refine take_lit (i := 6) (v := ?_) rfl (by kernel_rfl) (by kernel_rfl) (by kernel_rfl) (fun _ _ _ h => h) (by rfl) (fun wS hSw => ?_) hHeld ?_
    rotate_left
    · obtain ⟨s0, s1⟩ := hSw; go_simp; try with_reducible rfl
    try simp only [Act.put, List.setIfInBounds_toArray, List.set_cons_zero, List.set_cons_succ]
    refine take_lit (i := 7) (v := ?_) rfl (by kernel_rfl) (by kernel_rfl) (by kernel_rfl) (fun _ _ _ h => h) (by rfl) (fun wS hSw => ?_) hHeld ?_
    rotate_left
    · obtain ⟨s0, s1⟩ := hSw; go_simp; try with_reducible rfl
    try simp only [Act.put, List.setIfInBounds_toArray, List.set_cons_zero, List.set_cons_succ]
    refine take_lit (i := 8) (v := ?_) rfl (by kernel_rfl) (by kernel_rfl) (by kernel_rfl) (fun _ _ _ h => h) (by rfl) (fun wS hSw => ?_) hHeld ?_
    rotate_left
    · obtain ⟨s0, s1⟩ := hSw; go_simp; try with_reducible rfl
    try simp only [Act.put, List.setIfInBounds_toArray, List.set_cons_zero, List.set_cons_succ]
    refine take_lit (i := 9) (v := ?_) rfl (by kernel_rfl) (by kernel_rfl) (by kernel_rfl) (fun _ _ _ h => h) (by rfl) (fun wS hSw => ?_) hHeld ?_
    rotate_left
    · obtain ⟨s0, s1⟩ := hSw; go_simp; try with_reducible rfl
    try simp only [Act.put, List.setIfInBounds_toArray, List.set_cons_zero, List.set_cons_succ]
    refine take_lit (i := 10) (v := ?_) rfl (by kernel_rfl) (by kernel_rfl) (by kernel_rfl) (fun _ _ _ h => h) (by rfl) (fun wS hSw => ?_) hHeld ?_
    rotate_left
    · obtain ⟨s0, s1⟩ := hSw; go_simp; try with_reducible rfl
    try simp only [Act.put, List.setIfInBounds_toArray, List.set_cons_zero, List.set_cons_succ]
    refine take_lit (i := 11) (v := ?_) rfl (by kernel_rfl) (by kernel_rfl) (by kernel_rfl) (fun _ _ _ h => h) (by rfl) (fun wS hSw => ?_) hHeld ?_
    rotate_left
    · obtain ⟨s0, s1⟩ := hSw; go_simp; try with_reducible rfl
    try simp only [Act.put, List.setIfInBounds_toArray, List.set_cons_zero, List.set_cons_succ]
    refine take_lit (i := 12) (v := ?_) rfl (by kernel_rfl) (by kernel_rfl) (by kernel_rfl) (fun _ _ _ h => h) (by rfl) (fun wS hSw => ?_) hHeld ?_
    rotate_left
    · obtain ⟨s0, s1⟩ := hSw; go_simp; try with_reducible rfl
    try simp only [Act.put, List.setIfInBounds_toArray, List.set_cons_zero, List.set_cons_succ]
    refine wpAnyH_ready (rs := [13]) (by kernel_rfl) (by simp) (cons_lit (i := 13) rfl (fun K hK => ?_) AllReadyH.nil)
    go_simp
    refine hK.out _ _ (⟨cell_alloc_any hHeld.1 _, cell_alloc_any hHeld.2 _⟩) (fun hHeld2 => ?_)
    clear hK K hHeld
    have hHeld := hHeld2
    clear hHeld2
    try simp only [Act.put, List.setIfInBounds_toArray, List.set_cons_zero, List.set_cons_succ]
    refine wpAnyH_ready (rs := [14]) (by kernel_rfl) (by simp) (cons_lit (i := 14) rfl (fun K hK => ?_) AllReadyH.nil)
    go_simp
    refine (call_i HQ2.out [m + 1] _ rfl 1 rfl (by simp) (by intro o ho; simp at ho; have := HSZ.out; omega)).mono ?_
    rintro e wn hq
    have HON2 := Lib.hid hq.1
    obtain ⟨_, hm2⟩ := hq
    rw [show ([m + 1] : List Nat).length = 1 from rfl] at hm2
    cases hg1 : rdNs rdI 1 (all.drop p1) with
    | none =>
      rw [hg1] at hm2
      obtain ⟨rfl, pE, csE, hsE, hqE⟩ := hm2
      have HQ3 := Lib.hid hqE
      have HSE := Lib.hid hsE
      have HNG := Lib.hid hg1
      clear hqE hsE hg1
      try go_simp
      refine hK.out _ _ (⟨HQ3.out.2.1.1, HQ3.out.2.1.2.1⟩) (fun hHeld2 => ?_)
      clear hK K hHeld 
      have hHeld := hHeld2
      clear hHeld2
      try simp only [Act.put, List.setIfInBounds_toArray, List.set_cons_zero, List.set_cons_succ]
      refine take_lit (i := 15) (v := ?_) rfl (by kernel_rfl) (by kernel_rfl) (by kernel_rfl) (fun _ _ _ h => h) (by rfl) (fun wS hSw => ?_) hHeld ?_
      rotate_left
      · obtain ⟨s0, s1⟩ := hSw; go_simp; try with_reducible rfl
      try simp only [Act.put, List.setIfInBounds_toArray, List.set_cons_zero, List.set_cons_succ]
      refine take_lit (i := 16) (v := ?_) rfl (by kernel_rfl) (by kernel_rfl) (by kernel_rfl) (fun _ _ _ h => h) (by rfl) (fun wS hSw => ?_) hHeld ?_
      rotate_left
      · obtain ⟨s0, s1⟩ := hSw; go_simp; try with_reducible rfl
      try simp only [Act.put, List.setIfInBounds_toArray, List.set_cons_zero, List.set_cons_succ]
      refine wpAnyH_done (by kernel_rfl) ?_ _
      have HO1 := Lib.hid ((Only.of_below HBX.out (fun k => k = b ∨ k = T)).trans (Only.undrew HON1.out) (fun k hk hh => hh.elim .inl (fun e => absurd e (by have := HT7.out; omega))))
      have HO2 := Lib.hid (HO1.out.trans HON2.out (fun _ _ h => h))
      have HNO := Lib.hid (show rdCl (all.drop p0) = none by have := HMK.out; simp only [rdCl, HG0.out]; rw [if_pos (by omega)]; simp only [HNG.out])
      go_wp2_with fail
      go_ret
      refine ⟨HO2.out, ?_⟩
      rw [HNO.out]
      exact ⟨rfl, pE, csE, HSE.out, HQ3.out⟩
    | some y =>
      obtain ⟨ns, rest⟩ := y
      rw [hg1] at hm2
      obtain ⟨rfl, p2, rfl, hq3⟩ := hm2
      obtain ⟨col, rfl⟩ := one1 (rdNs_len hg1)
      have HQ3 := Lib.hid hq3
      have HG1 := Lib.hid hg1
      clear hq3 hg1
      try go_simp
      refine hK.out _ _ (⟨HQ3.out.2.1.1, HQ3.out.2.1.2.1⟩) (fun hHeld2 => ?_)
      clear hK K hHeld 
      have hHeld := hHeld2
      clear hHeld2
      try simp only [Act.put, List.setIfInBounds_toArray, List.set_cons_zero, List.set_cons_succ]
      refine take_lit (i := 15) (v := ?_) rfl (by kernel_rfl) (by kernel_rfl) (by kernel_rfl) (fun _ _ _ h => h) (by rfl) (fun wS hSw => ?_) hHeld ?_
      rotate_left
      · obtain ⟨s0, s1⟩ := hSw; go_simp; try with_reducible rfl
      try simp only [Act.put, List.setIfInBounds_toArray, List.set_cons_zero, List.set_cons_succ]
      refine take_lit (i := 16) (v := ?_) rfl (by kernel_rfl) (by kernel_rfl) (by kernel_rfl) (fun _ _ _ h => h) (by rfl) (fun wS hSw => ?_) hHeld ?_
      rotate_left
      · obtain ⟨s0, s1⟩ := hSw; go_simp; try with_reducible rfl
      try simp only [Act.put, List.setIfInBounds_toArray, List.set_cons_zero, List.set_cons_succ]
      refine wpAnyH_done (by kernel_rfl) ?_ _
      have HO1 := Lib.hid ((Only.of_below HBX.out (fun k => k = b ∨ k = T)).trans (Only.undrew HON1.out) (fun k hk hh => hh.elim .inl (fun e => absurd e (by have := HT7.out; omega))))
      have HO2 := Lib.hid (HO1.out.trans HON2.out (fun _ _ h => h))
      have hn7b := HNE.out.2
      have cm2 := HON2.out.cell (p := ⟨T7, 0, none⟩) cm (fun e => e.elim (fun e => hb7 e.symm) (fun e => HNE.out.2 e.symm))
      have c3n := HON2.out.cell (p := ⟨B3, 0, none⟩) ((Only.undrew HON1.out).cell (p := ⟨B3, 0, none⟩) c3 (fun e => e.elim HB3.out.1.1 HB3.out.2)) (fun e => e.elim HB3.out.1.1 HB3.out.1.2)
      clear cm c3 hn7b hHeld
      go_wp2_with fail
      refine (Text_ok wn F b all p2 16 HQ3.out.1 (by decide)).mono ?_
      rintro e w5 ⟨ho5, hm5⟩
      have cm5 := ho5.cell (p := ⟨T7, 0, none⟩) cm2 (fun e => hb7 e.symm)
      have HO5 := Lib.hid (HO2.out.trans ho5 (fun _ _ h => .inl h))
      clear cm2 c3n
      cases hg2 : rdT 16 (all.drop p2) with
      | none =>
        rw [hg2] at hm5
        obtain ⟨⟨ec, hec, rfl⟩, pX, hpX, hr5⟩ := hm5
        obtain rfl := hpX rfl
        have HQ5 := Lib.hid (HQ3.out.text ho5 hr5)
        have hne : (ec == 0) = false := by rcases hec with rfl | rfl | rfl <;> rfl
        have HNO := Lib.hid (show rdCl (all.drop p0) = none by have := HMK.out; simp only [rdCl, HG0.out]; rw [if_pos (by omega)]; simp only [HG1.out, hg2])
        clear ho5 hr5 hg2 hec hpX
        have cm0 := HQ5.out.2.2.1
        have csz : (setMany cs [m + 1] [col]).size = N0 := by rw [setMany_size]; exact HSZ.out
        have d0 : w5.cell? ⟨T, m, none⟩ = some (setMany cs [m + 1] [col])[m] := by simp only [World.cell?, cm0]; exact Array.getElem?_eq_getElem (by omega)
        have d2 : w5.cell? ⟨T, m + 2, none⟩ = some (setMany cs [m + 1] [col])[m + 2] := by simp only [World.cell?, cm0]; exact Array.getElem?_eq_getElem (by omega)
        have z0 : w5.frozen? ⟨T, m, none⟩ = false := by simp [World.frozen?, cm0]
        have z2 : w5.frozen? ⟨T, m + 2, none⟩ = false := by simp [World.frozen?, cm0]
        generalize (setMany cs [m + 1] [col])[m] = v0 at d0
        generalize (setMany cs [m + 1] [col])[m + 2] = v2 at d2
        have HQ6 := Lib.hid ((HQ5.out.setc m (.bool (decide ((mk : Int) = 1)))).setc (m + 2) (.string ⟨#[]⟩))
        have HO6 := Lib.hid ((HO5.out.setCell (p := ⟨T, m, none⟩) (fun _ => .inr rfl) (.bool (decide ((mk : Int) = 1)))).setCell (p := ⟨T, m + 2, none⟩) (fun _ => .inr rfl) (.string ⟨#[]⟩))
        clear cm0 csz
        go_upto_region 6 with fail
        generalize (w5.setCell ⟨T, m, none⟩ (.bool (decide ((mk : Int) = 1)))).setCell ⟨T, m + 2, none⟩ (.string ⟨#[]⟩) = w6 at HQ6 HO6 ⊢
        clear d0 d2 z0 z2 cm5
        refine wp_region_held_drew (S := (fun w' => Below w6.heap.size w6 w')) (by kernel_rfl) (Below.refl _ _).drew (fun hHeld => ?_)
        refine take_lit (i := 0) (v := ?_) rfl (by kernel_rfl) (by kernel_rfl) (by kernel_rfl) (fun _ _ _ h => h) (by rfl) (fun wS hSw => ?_) hHeld ?_
        rotate_left
        · go_simp; try with_reducible rfl
        try simp only [Act.put, List.setIfInBounds_toArray, List.set_cons_zero, List.set_cons_succ]
        refine take_lit (i := 1) (v := ?_) rfl (by kernel_rfl) (by kernel_rfl) (by kernel_rfl) (fun _ _ _ h => h) (by rfl) (fun wS hSw => ?_) hHeld ?_
        rotate_left
        · go_simp; try with_reducible rfl
        try simp only [Act.put, List.setIfInBounds_toArray, List.set_cons_zero, List.set_cons_succ]
        refine take_lit (i := 2) (v := ?_) rfl (by kernel_rfl) (by kernel_rfl) (by kernel_rfl) (fun _ _ _ h => h) (by rfl) (fun wS hSw => ?_) hHeld ?_
        rotate_left
        · go_simp; try with_reducible rfl
        try simp only [Act.put, List.setIfInBounds_toArray, List.set_cons_zero, List.set_cons_succ]
        refine take_no (i := 3) rfl (by kernel_rfl) (by kernel_rfl) (by kernel_rfl) (fun _ _ _ h => h) (by rfl) hHeld ?_
        try simp only [Act.put, List.setIfInBounds_toArray, List.set_cons_zero, List.set_cons_succ]
        refine take_no (i := 4) rfl (by kernel_rfl) (by kernel_rfl) (by kernel_rfl) (fun _ _ _ h => h) (by rfl) hHeld ?_
        try simp only [Act.put, List.setIfInBounds_toArray, List.set_cons_zero, List.set_cons_succ]
        refine take_no (i := 5) rfl (by kernel_rfl) (by kernel_rfl) (by kernel_rfl) (fun _ _ _ h => h) (by rfl) hHeld ?_
        try simp only [Act.put, List.setIfInBounds_toArray, List.set_cons_zero, List.set_cons_succ]
        refine take_no (i := 6) rfl (by kernel_rfl) (by kernel_rfl) (by kernel_rfl) (fun _ _ _ h => h) (by rfl) hHeld ?_
        try simp only [Act.put, List.setIfInBounds_toArray, List.set_cons_zero, List.set_cons_succ]
        refine take_no (i := 7) rfl (by kernel_rfl) (by kernel_rfl) (by kernel_rfl) (fun _ _ _ h => h) (by rfl) hHeld ?_
        try simp only [Act.put, List.setIfInBounds_toArray, List.set_cons_zero, List.set_cons_succ]
        refine take_no (i := 8) rfl (by kernel_rfl) (by kernel_rfl) (by kernel_rfl) (fun _ _ _ h => h) (by rfl) hHeld ?_
        try simp only [Act.put, List.setIfInBounds_toArray, List.set_cons_zero, List.set_cons_succ]
        refine take_no (i := 9) rfl (by kernel_rfl) (by kernel_rfl) (by kernel_rfl) (fun _ _ _ h => h) (by rfl) hHeld ?_
        try simp only [Act.put, List.setIfInBounds_toArray, List.set_cons_zero, List.set_cons_succ]
        refine take_no (i := 10) rfl (by kernel_rfl) (by kernel_rfl) (by kernel_rfl) (fun _ _ _ h => h) (by rfl) hHeld ?_
        try simp only [Act.put, List.setIfInBounds_toArray, List.set_cons_zero, List.set_cons_succ]
        refine take_no (i := 11) rfl (by kernel_rfl) (by kernel_rfl) (by kernel_rfl) (fun _ _ _ h => h) (by rfl) hHeld ?_
        try simp only [Act.put, List.setIfInBounds_toArray, List.set_cons_zero, List.set_cons_succ]
        refine take_lit (i := 12) (v := ?_) rfl (by kernel_rfl) (by kernel_rfl) (by kernel_rfl) (fun _ _ _ h => h) (by rfl) (fun wS hSw => ?_) hHeld ?_
        rotate_left
        · go_simp; try with_reducible rfl
        try simp only [Act.put, List.setIfInBounds_toArray, List.set_cons_zero, List.set_cons_succ]
        refine take_lit (i := 13) (v := ?_) rfl (by kernel_rfl) (by kernel_rfl) (by kernel_rfl) (fun _ _ _ h => h) (by rfl) (fun wS hSw => ?_) hHeld ?_
        rotate_left
        · go_simp; try with_reducible rfl
        try simp only [Act.put, List.setIfInBounds_toArray, List.set_cons_zero, List.set_cons_succ]
        refine wpAnyH_done (by kernel_rfl) ?_ _
        have hHeldB := hHeld
        have HZ := Lib.hid (And.intro (HO6.out.trans (Only.of_below hHeldB _) (fun _ _ h => h)) (HQ6.out.below hHeldB))
        clear hHeld hHeldB
        go_wp2_with fail
        go_ret
        refine ⟨HZ.out.1, ?_⟩
        rw [HNO.out]
        exact ⟨rfl, _, _, by rw [Array.size_setIfInBounds, Array.size_setIfInBounds, setMany_size], HZ.out.2⟩
      | some y =>
        obtain ⟨key, rest⟩ := y
        rw [hg2] at hm5
        obtain ⟨rfl, p3, rfl, _, hr5⟩ := hm5
        have HQ5 := Lib.hid (HQ3.out.text ho5 hr5)
        have HG2 := Lib.hid hg2
        clear ho5 hr5 hg2
        have cm0 := HQ5.out.2.2.1
        have csz : (setMany cs [m + 1] [col]).size = N0 := by rw [setMany_size]; exact HSZ.out
        have d0 : w5.cell? ⟨T, m, none⟩ = some (setMany cs [m + 1] [col])[m] := by simp only [World.cell?, cm0]; exact Array.getElem?_eq_getElem (by omega)
        have d2 : w5.cell? ⟨T, m + 2, none⟩ = some (setMany cs [m + 1] [col])[m + 2] := by simp only [World.cell?, cm0]; exact Array.getElem?_eq_getElem (by omega)
        have z0 : w5.frozen? ⟨T, m, none⟩ = false := by simp [World.frozen?, cm0]
        have z2 : w5.frozen? ⟨T, m + 2, none⟩ = false := by simp [World.frozen?, cm0]
        generalize (setMany cs [m + 1] [col])[m] = v0 at d0
        generalize (setMany cs [m + 1] [col])[m + 2] = v2 at d2
        have HQ6 := Lib.hid ((HQ5.out.setc m (.bool (decide ((mk : Int) = 1)))).setc (m + 2) (.string ⟨key.toArray⟩))
        have HO6 := Lib.hid ((HO5.out.setCell (p := ⟨T, m, none⟩) (fun _ => .inr rfl) (.bool (decide ((mk : Int) = 1)))).setCell (p := ⟨T, m + 2, none⟩) (fun _ => .inr rfl) (.string ⟨key.toArray⟩))
        clear cm0 csz
        go_upto_region 6 with fail
        generalize (w5.setCell ⟨T, m, none⟩ (.bool (decide ((mk : Int) = 1)))).setCell ⟨T, m + 2, none⟩ (.string ⟨key.toArray⟩) = w6 at HQ6 HO6 ⊢
        clear d0 d2 z0 z2 cm5
        have HQ7 := Lib.hid (HQ6.out.below (Below.refl w6.heap.size w6).drew)
        refine wp_region_held_drew (S := (fun w' => w'.cell? ⟨B5, 0, none⟩ = some (.func (.func 108) #[] #[.pointer (some ⟨X1, 0, none⟩)]) ∧ w'.cell? ⟨B6, 0, none⟩ = some (.func (.func 108) #[] #[.pointer (some ⟨X2, 0, none⟩)]))) (by kernel_rfl) ⟨(((Below.refl _ _).drew).cell (p := ⟨B5, 0, none⟩) (World.block_lt_of_cell? _ _ HQ6.out.2.1.1)).trans HQ6.out.2.1.1, (((Below.refl _ _).drew).cell (p := ⟨B6, 0, none⟩) (World.block_lt_of_cell? _ _ HQ6.out.2.1.2.1)).trans HQ6.out.2.1.2.1⟩ (fun hHeld => ?_)
        refine take_lit (i := 0) (v := ?_) rfl (by kernel_rfl) (by kernel_rfl) (by kernel_rfl) (fun _ _ _ h => h) (by rfl) (fun wS hSw => ?_) hHeld ?_
        rotate_left
        · obtain ⟨s0, s1⟩ := hSw; go_simp; try with_reducible rfl
        try simp only [Act.put, List.setIfInBounds_toArray, List.set_cons_zero, List.set_cons_succ]
        refine take_lit (i := 1) (v := ?_) rfl (by kernel_rfl) (by kernel_rfl) (by kernel_rfl) (fun _ _ _ h => h) (by rfl) (fun wS hSw => ?_) hHeld ?_
        rotate_left
        · obtain ⟨s0, s1⟩ := hSw; go_simp; try with_reducible rfl
        try simp only [Act.put, List.setIfInBounds_toArray, List.set_cons_zero, List.set_cons_succ]
        refine take_lit (i := 2) (v := ?_) rfl (by kernel_rfl) (by kernel_rfl) (by kernel_rfl) (fun _ _ _ h => h) (by rfl) (fun wS hSw => ?_) hHeld ?_
        rotate_left
        · obtain ⟨s0, s1⟩ := hSw; go_simp; try with_reducible rfl
        try simp only [Act.put, List.setIfInBounds_toArray, List.set_cons_zero, List.set_cons_succ]
        refine take_lit (i := 3) (v := ?_) rfl (by kernel_rfl) (by kernel_rfl) (by kernel_rfl) (fun _ _ _ h => h) (by rfl) (fun wS hSw => ?_) hHeld ?_
        rotate_left
        · obtain ⟨s0, s1⟩ := hSw; go_simp; try with_reducible rfl
        try simp only [Act.put, List.setIfInBounds_toArray, List.set_cons_zero, List.set_cons_succ]
        refine take_lit (i := 4) (v := ?_) rfl (by kernel_rfl) (by kernel_rfl) (by kernel_rfl) (fun _ _ _ h => h) (by rfl) (fun wS hSw => ?_) hHeld ?_
        rotate_left
        · obtain ⟨s0, s1⟩ := hSw; go_simp; try with_reducible rfl
        try simp only [Act.put, List.setIfInBounds_toArray, List.set_cons_zero, List.set_cons_succ]
        refine take_lit (i := 5) (v := ?_) rfl (by kernel_rfl) (by kernel_rfl) (by kernel_rfl) (fun _ _ _ h => h) (by rfl) (fun wS hSw => ?_) hHeld ?_
        rotate_left
        · obtain ⟨s0, s1⟩ := hSw; go_simp; try with_reducible rfl
        try simp only [Act.put, List.setIfInBounds_toArray, List.set_cons_zero, List.set_cons_succ]
        refine take_lit (i := 6) (v := ?_) rfl (by kernel_rfl) (by kernel_rfl) (by kernel_rfl) (fun _ _ _ h => h) (by rfl) (fun wS hSw => ?_) hHeld ?_
        rotate_left
        · obtain ⟨s0, s1⟩ := hSw; go_simp; try with_reducible rfl
        try simp only [Act.put, List.setIfInBounds_toArray, List.set_cons_zero, List.set_cons_succ]
        refine take_lit (i := 7) (v := ?_) rfl (by kernel_rfl) (by kernel_rfl) (by kernel_rfl) (fun _ _ _ h => h) (by rfl) (fun wS hSw => ?_) hHeld ?_
        rotate_left
        · obtain ⟨s0, s1⟩ := hSw; go_simp; try with_reducible rfl
        try simp only [Act.put, List.setIfInBounds_toArray, List.set_cons_zero, List.set_cons_succ]
        refine take_lit (i := 8) (v := ?_) rfl (by kernel_rfl) (by kernel_rfl) (by kernel_rfl) (fun _ _ _ h => h) (by rfl) (fun wS hSw => ?_) hHeld ?_
        rotate_left
        · obtain ⟨s0, s1⟩ := hSw; go_simp; try with_reducible rfl
        try simp only [Act.put, List.setIfInBounds_toArray, List.set_cons_zero, List.set_cons_succ]
        refine take_lit (i := 9) (v := ?_) rfl (by kernel_rfl) (by kernel_rfl) (by kernel_rfl) (fun _ _ _ h => h) (by rfl) (fun wS hSw => ?_) hHeld ?_
        rotate_left
        · obtain ⟨s0, s1⟩ := hSw; go_simp; try with_reducible rfl
        try simp only [Act.put, List.setIfInBounds_toArray, List.set_cons_zero, List.set_cons_succ]
        refine wpAnyH_ready (rs := [10]) (by kernel_rfl) (by simp) (cons_lit (i := 10) rfl (fun K hK => ?_) AllReadyH.nil)
        go_simp
        refine hK.out _ _ (⟨cell_alloc_any hHeld.1 _, cell_alloc_any hHeld.2 _⟩) (fun hHeld2 => ?_)
        clear hK K hHeld
        have hHeld := hHeld2
        clear hHeld2
        try simp only [Act.put, List.setIfInBounds_toArray, List.set_cons_zero, List.set_cons_succ]
        refine wpAnyH_ready (rs := [11]) (by kernel_rfl) (by simp) (cons_lit (i := 11) rfl (fun K hK => ?_) AllReadyH.nil)
        go_simp
        refine (call_i HQ7.out [m + 3, m + 4] _ rfl 2 rfl (by simp) (by intro o ho; rw [Array.size_setIfInBounds, Array.size_setIfInBounds, setMany_size]; simp at ho; have := HSZ.out; omega)).mono ?_
        rintro e wn hq
        have HON8 := Lib.hid hq.1
        obtain ⟨_, hm8⟩ := hq
        rw [show ([m + 3, m + 4] : List Nat).length = 2 from rfl] at hm8
        cases hg8 : rdNs rdI 2 (all.drop p3) with
        | none =>
          rw [hg8] at hm8
          obtain ⟨rfl, pE, csE, hsE, hqE⟩ := hm8
          have HQ8 := Lib.hid hqE
          have HSE := Lib.hid hsE
          have HNG := Lib.hid hg8
          clear hqE hsE hg8
          try go_simp
          refine hK.out _ _ (⟨HQ8.out.2.1.1, HQ8.out.2.1.2.1⟩) (fun hHeld2 => ?_)
          clear hK K hHeld 
          have hHeld := hHeld2
          clear hHeld2
          try simp only [Act.put, List.setIfInBounds_toArray, List.set_cons_zero, List.set_cons_succ]
          refine take_lit (i := 12) (v := ?_) rfl (by kernel_rfl) (by kernel_rfl) (by kernel_rfl) (fun _ _ _ h => h) (by rfl) (fun wS hSw => ?_) hHeld ?_
          rotate_left
          · obtain ⟨s0, s1⟩ := hSw; go_simp; try with_reducible rfl
          try simp only [Act.put, List.setIfInBounds_toArray, List.set_cons_zero, List.set_cons_succ]
          refine take_lit (i := 13) (v := ?_) rfl (by kernel_rfl) (by kernel_rfl) (by kernel_rfl) (fun _ _ _ h => h) (by rfl) (fun wS hSw => ?_) hHeld ?_
          rotate_left
          · obtain ⟨s0, s1⟩ := hSw; go_simp; try with_reducible rfl
          try simp only [Act.put, List.setIfInBounds_toArray, List.set_cons_zero, List.set_cons_succ]
          refine wpAnyH_done (by kernel_rfl) ?_ _
          have HO8 := Lib.hid (HO6.out.trans (Only.undrew HON8.out) (fun _ _ h => h))
          have HNO := Lib.hid (show rdCl (all.drop p0) = none by have := HMK.out; simp only [rdCl, HG0.out]; rw [if_pos (by omega)]; simp only [HG1.out, HG2.out, HNG.out])
          go_wp2_with fail
          go_ret
          refine ⟨HO8.out, ?_⟩
          rw [HNO.out]
          exact ⟨rfl, pE, csE, by rw [HSE.out, Array.size_setIfInBounds, Array.size_setIfInBounds, setMany_size], HQ8.out⟩
        | some y =>
          obtain ⟨ns, rest⟩ := y
          rw [hg8] at hm8
          obtain ⟨rfl, p4, rfl, hq8⟩ := hm8
          obtain ⟨lo, hi, rfl⟩ := two2 (rdNs_len hg8)
          have HQ8 := Lib.hid hq8
          have HG8 := Lib.hid hg8
          clear hq8 hg8
          try go_simp
          refine hK.out _ _ (⟨HQ8.out.2.1.1, HQ8.out.2.1.2.1⟩) (fun hHeld2 => ?_)
          clear hK K hHeld 
          have hHeld := hHeld2
          clear hHeld2
          try simp only [Act.put, List.setIfInBounds_toArray, List.set_cons_zero, List.set_cons_succ]
          refine take_lit (i := 12) (v := ?_) rfl (by kernel_rfl) (by kernel_rfl) (by kernel_rfl) (fun _ _ _ h => h) (by rfl) (fun wS hSw => ?_) hHeld ?_
          rotate_left
          · obtain ⟨s0, s1⟩ := hSw; go_simp; try with_reducible rfl
          try simp only [Act.put, List.setIfInBounds_toArray, List.set_cons_zero, List.set_cons_succ]
          refine take_lit (i := 13) (v := ?_) rfl (by kernel_rfl) (by kernel_rfl) (by kernel_rfl) (fun _ _ _ h => h) (by rfl) (fun wS hSw => ?_) hHeld ?_
          rotate_left
          · obtain ⟨s0, s1⟩ := hSw; go_simp; try with_reducible rfl
          try simp only [Act.put, List.setIfInBounds_toArray, List.set_cons_zero, List.set_cons_succ]
          refine wpAnyH_done (by kernel_rfl) ?_ _
          have HO8 := Lib.hid (HO6.out.trans (Only.undrew HON8.out) (fun _ _ h => h))
          have HYS := Lib.hid (show rdCl (all.drop p0) = some (⟨decide ((mk : Int) = 1), col, key, lo, hi⟩, all.drop p4) by have := HMK.out; simp only [rdCl, HG0.out]; rw [if_pos (by omega)]; simp only [HG1.out, HG2.out, HG8.out])
          go_wp2_with fail
          go_ret
          refine ⟨HO8.out, ?_⟩
          rw [HYS.out]
          exact ⟨rfl, p4, rfl, HQ8.out⟩
end Go.Proofs.YtihjcfifakcpgaaGreatDoor
