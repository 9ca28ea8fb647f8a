/- exec over a log of one empty piece: frame.Decode of what is empty, log.Entry, exec.New, Acts. -/
import Derived.Test.YtiacbhnkcllpjaaGreatDoorExecB
import Derived.Test.YtiacbhnkcllpjaaGreatDoorMapA
import Derived.Test.YtiacbhnkcllpjaaGreatDoorLogAt
namespace Go.Proofs.YtiacbhnkcllpjaaGreatDoor
set_option maxRecDepth 100000
open Go.RowKit Go.Maps Go.WideShapes

set_option maxRecDepth 100000 in
theorem open0_ok (w : World) (A : Option Addr) (c : Nat) : Calls Tryz.prog 138 #[.slice A 0 c] w fun e w' => e = .returned (.tuple #[.slice none 0 0, .int .i64 11]) ∧ w' = w := by
  go_enter Tryz.func138, Tryz.ntmps138
  go_wp2_with fail
  go_ret2
  exact ⟨rfl, rfl⟩
set_option maxRecDepth 100000 in
set_option maxHeartbeats 1000000 in
theorem decode0_ok (w : World) (A : Option Addr) (c : Nat) : Calls Tryz.prog 89 #[.slice A 0 c] w fun e w' => e = .returned (.tuple #[zeroEn, .int .i64 11]) ∧ Below w.heap.size w w' := by
  have hb0 := new_box w (.cells #[.int .i64 0, .slice none 0 0, .slice none 0 0, .slice none 0 0] 76)
  have k0 := heap_alloc_new w (.cells #[.int .i64 0, .slice none 0 0, .slice none 0 0, .slice none 0 0] 76)
  go_enter Tryz.func89, Tryz.ntmps89
  go_upto_region 1 with fail
  generalize w.alloc (.cells #[.int .i64 0, .slice none 0 0, .slice none 0 0, .slice none 0 0] 76) = w1 at hb0 k0 ⊢
  obtain ⟨R, hR⟩ : ∃ x, w.heap.size = x := ⟨_, rfl⟩
  rw [hR] at k0 ⊢
  have HR := Lib.hid (And.intro hR (And.intro hb0 k0))
  have z0 : w1.cell? ⟨R, 0, none⟩ = some (.int .i64 0) := by simp [World.cell?, k0]
  have z1 : w1.cell? ⟨R, 1, none⟩ = some (.slice none 0 0) := by simp [World.cell?, k0]
  have z2 : w1.cell? ⟨R, 2, none⟩ = some (.slice none 0 0) := by simp [World.cell?, k0]
  have z3 : w1.cell? ⟨R, 3, none⟩ = some (.slice none 0 0) := by simp [World.cell?, k0]
  have y0 : w1.frozen? ⟨R, 0, none⟩ = false := by simp [World.frozen?, k0]
  have y1 : w1.frozen? ⟨R, 1, none⟩ = false := by simp [World.frozen?, k0]
  have y2 : w1.frozen? ⟨R, 2, none⟩ = false := by simp [World.frozen?, k0]
  have y3 : w1.frozen? ⟨R, 3, none⟩ = false := by simp [World.frozen?, k0]
  clear hb0 k0 hR
  have HO := Lib.hid (open0_ok w1 A c)
  go_wp2_with fail
  refine HO.out.mono ?_
  rintro e w2 ⟨rfl, rfl⟩
  go_wp2_with fail
  have hp := put4r (v0 := .int .i64 0) (v1 := .slice none 0 0) (v2 := .slice none 0 0) (v3 := .slice none 0 0) HR.out.2.2
  have hB2 : Below w.heap.size w w2 := HR.out.2.1
  have hRs : w.heap.size ≤ R := Nat.le_of_eq HR.out.1
  exact bodyPost_ret (results_cell_row2 rfl _ _ _ _ _ _ _ rfl hp Tryz.underlying76 rfl (by kernel_rfl)) rfl ⟨rfl, (((hB2.setCell (p := ⟨R, 0, none⟩) hRs _).setCell (p := ⟨R, 1, none⟩) hRs _).setCell (p := ⟨R, 2, none⟩) hRs _).setCell (p := ⟨R, 3, none⟩) hRs _⟩
set_option maxRecDepth 100000 in
set_option maxHeartbeats 1000000 in
theorem entry0_ok (w : World) (F : Nat → Prop) (L : Nat) (h : LogAt w F L [[]]) : Calls Tryz.prog 158 #[.pointer (some ⟨L, 0, none⟩), .int .i64 0] w fun e w' => e = .returned (.tuple #[zeroEn, .int .i64 11]) ∧ Below w.heap.size w w' := by
  have hb0 := new_box w (.cells #[.int .i64 0, .slice none 0 0, .slice none 0 0, .slice none 0 0] 76)
  have k0 := heap_alloc_new w (.cells #[.int .i64 0, .slice none 0 0, .slice none 0 0, .slice none 0 0] 76)
  have h1 := h.below hb0
  go_enter Tryz.func158, Tryz.ntmps158
  go_upto_region 1 with fail
  generalize w.alloc (.cells #[.int .i64 0, .slice none 0 0, .slice none 0 0, .slice none 0 0] 76) = w1 at hb0 k0 h1 ⊢
  obtain ⟨R, hR⟩ : ∃ x, w.heap.size = x := ⟨_, rfl⟩
  rw [hR] at k0 ⊢
  have HR := Lib.hid (And.intro hR (And.intro hb0 k0))
  have HA := Lib.hid (at_ok w1 F L [[]] h1 0 [] rfl (by simp))
  clear hb0 k0 hR h h1
  go_wp2_with fail
  refine HA.out.mono ?_
  rintro e w2 ⟨A, c, rfl, -, hb2⟩
  have HR2 := Lib.hid (And.intro (HR.out.2.1.trans (hb2.mono HR.out.2.1.size)) ((Only.of_below hb2 (fun _ => False)).heap HR.out.2.2 (fun h => h)))
  clear hb2 HA
  rw [show ([] : List UInt8).length = 0 from rfl]
  go_wp2_with fail
  refine (decode0_ok w2 A c).mono ?_
  rintro e w3 ⟨rfl, hb3⟩
  unfold zeroEn
  have k0 := (Only.of_below hb3 (fun _ => False)).heap HR2.out.2 (fun h => h)
  have HR3 := Lib.hid (And.intro (HR2.out.1.trans (hb3.mono HR2.out.1.size)) (And.intro k0 (Nat.le_of_eq HR.out.1)))
  have z0 : w3.cell? ⟨R, 0, none⟩ = some (.int .i64 0) := by simp [World.cell?, k0]
  have z1 : w3.cell? ⟨R, 1, none⟩ = some (.slice none 0 0) := by simp [World.cell?, k0]
  have z2 : w3.cell? ⟨R, 2, none⟩ = some (.slice none 0 0) := by simp [World.cell?, k0]
  have z3 : w3.cell? ⟨R, 3, none⟩ = some (.slice none 0 0) := by simp [World.cell?, k0]
  have y0 : w3.frozen? ⟨R, 0, none⟩ = false := by simp [World.frozen?, k0]
  have y1 : w3.frozen? ⟨R, 1, none⟩ = false := by simp [World.frozen?, k0]
  have y2 : w3.frozen? ⟨R, 2, none⟩ = false := by simp [World.frozen?, k0]
  have y3 : w3.frozen? ⟨R, 3, none⟩ = false := by simp [World.frozen?, k0]
  clear k0 hb3
  go_wp2_with fail
  have hp := put4r (v0 := .int .i64 0) (v1 := .slice none 0 0) (v2 := .slice none 0 0) (v3 := .slice none 0 0) HR3.out.2.1
  have hRs := HR3.out.2.2
  exact bodyPost_ret (results_cell_row2 rfl _ _ _ _ _ _ _ rfl hp Tryz.underlying76 rfl (by kernel_rfl)) rfl ⟨rfl, (((HR3.out.1.setCell (p := ⟨R, 0, none⟩) hRs _).setCell (p := ⟨R, 1, none⟩) hRs _).setCell (p := ⟨R, 2, none⟩) hRs _).setCell (p := ⟨R, 3, none⟩) hRs _⟩
/-- The cells of a replica. -/
def repG (L : Nat) (f : Int) (T K B m1 m2 : Nat) (adm : Int) : Obj := .cells #[.pointer (some ⟨L, 0, none⟩), .int .i64 f, .pointer (some ⟨T, 0, none⟩), .pointer (some ⟨K, 0, none⟩), .pointer (some ⟨B, 0, none⟩), .map (some m1), .map (some m2), .int .i64 adm] 138 (0, 0)
theorem repG_cells {w : World} {R L : Nat} {f : Int} {T K B m1 m2 : Nat} {adm : Int} (h : w.heap[R]? = some (repG L f T K B m1 m2 adm)) :
    (w.cell? ⟨R, 0, none⟩ = some (.pointer (some ⟨L, 0, none⟩)) ∧ w.cell? ⟨R, 3, none⟩ = some (.pointer (some ⟨K, 0, none⟩)) ∧ w.cell? ⟨R, 4, none⟩ = some (.pointer (some ⟨B, 0, none⟩)) ∧
    w.cell? ⟨R, 6, none⟩ = some (.map (some m2)) ∧ w.cell? ⟨R, 7, none⟩ = some (.int .i64 adm)) ∧ w.frozen? ⟨R, 7, none⟩ = false := by
  unfold repG at h
  refine ⟨⟨?_, ?_, ?_, ?_, ?_⟩, ?_⟩ <;> simp [World.cell?, World.frozen?, h]
/-- A replica of a log of one empty piece, with so much admitted, and these outcomes; its blocks are not the log's. -/
def RepG (w : World) (F : Nat → Prop) (R m2 : Nat) (adm : Int) (cnt : Nat) (g : Value → Option Value) : Prop := ∃ L f T K B m1 n, w.heap[R]? = some (repG L f T K B m1 m2 adm) ∧ LogAt w F L [[]] ∧ ¬ F R ∧ ¬ F m2 ∧ LkE w K ∧ n ≤ 16 ∧ BoardE w B n ∧ MapAt Tryz.prog w 3 m2 cnt g
theorem RepG.below {w w' : World} {F : Nat → Prop} {R m2 : Nat} {adm : Int} {cnt : Nat} {g : Value → Option Value} (h : RepG w F R m2 adm cnt g) (hb : Below w.heap.size w w') : RepG w' F R m2 adm cnt g := by
  obtain ⟨L, f, T, K, B, m1, n, h0, h1, h2, h3, h4, h5, h6, h7⟩ := h
  exact ⟨L, f, T, K, B, m1, n, (Only.of_below hb (fun _ => False)).heap h0 (fun h => h), h1.below hb, h2, h3, h4.below hb, h5, h6.below hb, h7.below hb⟩
theorem mp_of {wk W : World} {R : Nat} {o : Obj} (_ : Below wk.heap.size wk W ∧ W.heap[R]? = some o) : MapAt Tryz.prog (W.alloc (.map #[] 0)) 3 W.heap.size 0 (fun _ => none) := MapAt.made Tryz.prog W 3
theorem map_lift {W X wn : World} {b n : Nat} {g : Value → Option Value} (h : MapAt Tryz.prog W 3 b n g) (hb : Below X.heap.size X wn) (e : X.heap = W.heap) : MapAt Tryz.prog wn 3 b n g := h.same ((hb.block b (by rw [e]; exact h.lt)).trans (by rw [e]))
theorem cfgErr429 : cfgErr 4 2 9 = 0 := by simp [cfgErr, fuelErr, tabErr, ordErr]
set_option maxRecDepth 100000 in
set_option maxHeartbeats 4000000 in
theorem exNew1_ok (w : World) (L : Nat) (F : Nat → Prop) (h : LogAt w F L [[]]) (hF : ∀ k, F k → k < w.heap.size) : Calls Tryz.prog 12 #[.pointer (some ⟨L, 0, none⟩), .agg #[.int .i64 4, .int .i64 2, .int .i64 9], .int .i64 1] w fun e w' =>
    Below w.heap.size w w' ∧ ∃ R m2, e = .returned (.tuple #[.pointer (some ⟨R, 0, none⟩), .int .i64 0]) ∧ w.heap.size ≤ R ∧ w.heap.size ≤ m2 ∧ R ≠ m2 ∧ RepG w' F R m2 0 0 (fun _ => none) := by
  have hb0 := new_box w (.cells #[.int .i64 4, .int .i64 2, .int .i64 9] 23)
  have k0 := heap_alloc_new w (.cells #[.int .i64 4, .int .i64 2, .int .i64 9] 23)
  have hmm := @run_makeMap Tryz.prog
  go_enter Tryz.func12, Tryz.ntmps12
  go_upto_region 1 with fail
  have h := h.below hb0
  generalize w.alloc (.cells #[.int .i64 4, .int .i64 2, .int .i64 9] 23) = w1 at hb0 k0 h ⊢
  obtain ⟨C, hC⟩ : ∃ x, w.heap.size = x := ⟨_, rfl⟩
  rw [hC] at k0 ⊢
  clear hC
  have z0 : w1.cell? ⟨C, 0, none⟩ = some (.int .i64 4) := by simp [World.cell?, k0]
  have z1 : w1.cell? ⟨C, 1, none⟩ = some (.int .i64 2) := by simp [World.cell?, k0]
  have z2 : w1.cell? ⟨C, 2, none⟩ = some (.int .i64 9) := by simp [World.cell?, k0]
  have HB := Lib.hid (And.intro hb0 (And.intro k0 h))
  have HE := Lib.hid (serEmpty_ok w1 4 2 9)
  unfold cfgV at HE
  rw [cfgErr429] at HE
  clear hb0 k0 h
  go_wp2_with fail
  refine HE.out.mono ?_
  rintro e w2 ⟨hb2, he, -⟩
  obtain ⟨T, rfl, -, -⟩ := he rfl
  have HB2 := Lib.hid (And.intro (HB.out.1.trans (hb2.mono HB.out.1.size)) (And.intro ((Only.of_below hb2 (fun _ => False)).heap HB.out.2.1 (fun h => h)) (HB.out.2.2.below hb2)))
  clear z0 z1 z2 hb2 HE he
  go_wp2_with fail
  refine (schNew_ok w2 1).mono ?_
  rintro e w3 ⟨hb3, hs, -⟩
  have HB3 := Lib.hid (And.intro (HB2.out.1.trans (hb3.mono HB2.out.1.size)) (And.intro ((Only.of_below hb3 (fun _ => False)).heap HB2.out.2.1 (fun h => h)) (HB2.out.2.2.below hb3)))
  obtain ⟨B, nb, rfl, hnb, -, hBd⟩ := hs (by simp [wkErr])
  have HBd := Lib.hid (And.intro hnb hBd)
  clear hb3 hs hnb hBd
  go_wp2_with fail
  refine wp_region_held_drew (S := (fun w' => Below w3.heap.size w3 w' ∧ w'.heap[C]? = some (.cells #[.int .i64 4, .int .i64 2, .int .i64 9] 23 (0, 0)))) (by kernel_rfl) ⟨(Below.refl _ _).drew, HB3.out.2.1⟩ (fun hHeld => ?_)
  refine takeS (i := 0) (v := ?_) rfl (by kernel_rfl) (by kernel_rfl) (by kernel_rfl) (fun _ _ _ h => h) (by rfl) (fun wS hSw => ?_) hHeld ?_
  rotate_left
  · obtain ⟨s0, s1⟩ := hSw; go_simp; try with_reducible rfl
  try simp only [Act.put, List.setIfInBounds_toArray, List.set_cons_zero, List.set_cons_succ]
  refine takeS (i := 1) (v := ?_) rfl (by kernel_rfl) (by kernel_rfl) (by kernel_rfl) (fun _ _ _ h => h) (by rfl) (fun wS hSw => ?_) hHeld ?_
  rotate_left
  · obtain ⟨s0, s1⟩ := hSw; go_simp; try with_reducible rfl
  try simp only [Act.put, List.setIfInBounds_toArray, List.set_cons_zero, List.set_cons_succ]
  refine takeS (i := 2) (v := ?_) rfl (by kernel_rfl) (by kernel_rfl) (by kernel_rfl) (fun _ _ _ h => h) (by rfl) (fun wS hSw => ?_) hHeld ?_
  rotate_left
  · obtain ⟨s0, s1⟩ := hSw; have s2 := cfgO_cell s1; go_simp; try with_reducible rfl
  try simp only [Act.put, List.setIfInBounds_toArray, List.set_cons_zero, List.set_cons_succ]
  refine takeS (i := 3) (v := ?_) rfl (by kernel_rfl) (by kernel_rfl) (by kernel_rfl) (fun _ _ _ h => h) (by rfl) (fun wS hSw => ?_) hHeld ?_
  rotate_left
  · obtain ⟨s0, s1⟩ := hSw; go_simp; try with_reducible rfl
  try simp only [Act.put, List.setIfInBounds_toArray, List.set_cons_zero, List.set_cons_succ]
  refine takeS (i := 5) (v := ?_) rfl (by kernel_rfl) (by kernel_rfl) (by kernel_rfl) (fun _ _ _ h => h) (by rfl) (fun wS hSw => ?_) hHeld ?_
  rotate_left
  · obtain ⟨s0, s1⟩ := hSw; go_simp; try with_reducible rfl
  try simp only [Act.put, List.setIfInBounds_toArray, List.set_cons_zero, List.set_cons_succ]
  refine wpAnyH_ready (rs := [4, 6, 7]) (by kernel_rfl) (by simp) (consS (i := 4) rfl (fun K hK => ?_) (consS (i := 6) rfl (fun K hK => ?_) (consS (i := 7) rfl (fun K hK => ?_) AllReadyH.nil)))
  · skip
    go_simp
    refine (lkNew0_ok _).mono ?_
    rintro e wn ⟨Kl, rfl, -, hL, hbn⟩
    have HL := Lib.hid hL
    clear hL
    first | have HM := Lib.hid (map_lift HM.out hbn rfl) | have HM := Lib.hid (map_lift (HM.out.below (new_box _ (.map #[] 0))) hbn rfl) | skip
    try go_simp
    refine hK.out _ _ (heldB1 hHeld hbn) (fun hHeld2 => ?_)
    clear hK K hHeld hbn
    have hHeld := hHeld2
    clear hHeld2
    try simp only [Act.put, List.setIfInBounds_toArray, List.set_cons_zero, List.set_cons_succ]
    refine wpAnyH_ready (rs := [6, 7]) (by kernel_rfl) (by simp) (consS (i := 6) rfl (fun K hK => ?_) (consS (i := 7) rfl (fun K hK => ?_) AllReadyH.nil))
    · skip
      go_simp
      refine hK.out _ _ (heldB1 hHeld (new_box _ _)) (fun hHeld2 => ?_)
      clear hK K hHeld 
      have hHeld := hHeld2
      clear hHeld2
      try simp only [Act.put, List.setIfInBounds_toArray, List.set_cons_zero, List.set_cons_succ]
      refine wpAnyH_ready (rs := [7]) (by kernel_rfl) (by simp) (consS (i := 7) rfl (fun K hK => ?_) AllReadyH.nil)
      have HM := Lib.hid (mp_of hHeld)
      have HS7 := Lib.hid hHeld.1.size
      go_simp
      refine hK.out _ _ (heldB1 hHeld (new_box _ _)) (fun hHeld2 => ?_)
      clear hK K hHeld 
      have hHeld := hHeld2
      clear hHeld2
      try simp only [Act.put, List.setIfInBounds_toArray, List.set_cons_zero, List.set_cons_succ]
      refine takeS (i := 8) (v := ?_) rfl (by kernel_rfl) (by kernel_rfl) (by kernel_rfl) (fun _ _ _ h => h) (by rfl) (fun wS hSw => ?_) hHeld ?_
      rotate_left
      · obtain ⟨s0, s1⟩ := hSw; go_simp; try with_reducible rfl
      try simp only [Act.put, List.setIfInBounds_toArray, List.set_cons_zero, List.set_cons_succ]
      refine wpAnyH_ready (rs := [9]) (by kernel_rfl) (by simp) (consS (i := 9) rfl (fun K hK => ?_) AllReadyH.nil)
      have HS9 := Lib.hid hHeld.1.size
      go_simp
      refine hK.out _ _ (heldB1 hHeld (new_box _ _)) (fun hHeld2 => ?_)
      clear hK K hHeld 
      have hHeld := hHeld2
      clear hHeld2
      try simp only [Act.put, List.setIfInBounds_toArray, List.set_cons_zero, List.set_cons_succ]
      refine takeS (i := 10) (v := ?_) rfl (by kernel_rfl) (by kernel_rfl) (by kernel_rfl) (fun _ _ _ h => h) (by rfl) (fun wS hSw => ?_) hHeld ?_
      rotate_left
      · obtain ⟨s0, s1⟩ := hSw; go_simp; try with_reducible rfl
      try simp only [Act.put, List.setIfInBounds_toArray, List.set_cons_zero, List.set_cons_succ]
      refine takeS (i := 11) (v := ?_) rfl (by kernel_rfl) (by kernel_rfl) (by kernel_rfl) (fun _ _ _ h => h) (by rfl) (fun wS hSw => ?_) hHeld ?_
      rotate_left
      · obtain ⟨s0, s1⟩ := hSw; go_simp; try with_reducible rfl
      try simp only [Act.put, List.setIfInBounds_toArray, List.set_cons_zero, List.set_cons_succ]
      refine wpAnyH_done (by kernel_rfl) ?_ _
      have h03 := HB3.out.1.size
      have hsz := hHeld.1.size
      go_wp2_with fail
      go_ret2
      refine ⟨HB3.out.1.trans (hHeld.1.mono HB3.out.1.size), _, _, rfl, ?_, ?_, ?_, L, 9, T, Kl, B, _, nb, alloc_at (by simp), HB3.out.2.2.below hHeld.1, ?_, ?_, ?_, HBd.out.1, HBd.out.2.below hHeld.1, ?_⟩
      · have h9 := HS9.out; simp at h9 ⊢; omega
      · first | (have h9 := HS9.out; simp at h9 ⊢; omega) | (have h7 := HS7.out; simp at h7 ⊢; omega)
      · intro hk; first | (simp at hk; done) | (simp at hk; omega) | (have hlt := HM.out.lt; omega) | (have hlt := HM.out.lt; simp at hk hlt; omega) | (have hlt := HM.out.lt; simp at hlt; omega)
      · exact fun hk => absurd (hF _ hk) (by first | (have h9 := HS9.out; simp at h9 ⊢; omega) | (have h7 := HS7.out; simp at h7 ⊢; omega))
      · exact fun hk => absurd (hF _ hk) (by first | (have h9 := HS9.out; simp at h9 ⊢; omega) | (have h7 := HS7.out; simp at h7 ⊢; omega))
      · repeat (first | exact HL.out | refine LkE.below ?_ (new_box _ _))
      · repeat (first | exact HM.out | (simpa using HM.out; done) | refine MapAt.below ?_ (new_box _ _))
    · skip
      have HM := Lib.hid (mp_of hHeld)
      have HS7 := Lib.hid hHeld.1.size
      go_simp
      refine hK.out _ _ (heldB1 hHeld (new_box _ _)) (fun hHeld2 => ?_)
      clear hK K hHeld 
      have hHeld := hHeld2
      clear hHeld2
      try simp only [Act.put, List.setIfInBounds_toArray, List.set_cons_zero, List.set_cons_succ]
      refine wpAnyH_ready (rs := [6]) (by kernel_rfl) (by simp) (consS (i := 6) rfl (fun K hK => ?_) AllReadyH.nil)
      go_simp
      refine hK.out _ _ (heldB1 hHeld (new_box _ _)) (fun hHeld2 => ?_)
      clear hK K hHeld 
      have hHeld := hHeld2
      clear hHeld2
      try simp only [Act.put, List.setIfInBounds_toArray, List.set_cons_zero, List.set_cons_succ]
      refine takeS (i := 8) (v := ?_) rfl (by kernel_rfl) (by kernel_rfl) (by kernel_rfl) (fun _ _ _ h => h) (by rfl) (fun wS hSw => ?_) hHeld ?_
      rotate_left
      · obtain ⟨s0, s1⟩ := hSw; go_simp; try with_reducible rfl
      try simp only [Act.put, List.setIfInBounds_toArray, List.set_cons_zero, List.set_cons_succ]
      refine wpAnyH_ready (rs := [9]) (by kernel_rfl) (by simp) (consS (i := 9) rfl (fun K hK => ?_) AllReadyH.nil)
      have HS9 := Lib.hid hHeld.1.size
      go_simp
      refine hK.out _ _ (heldB1 hHeld (new_box _ _)) (fun hHeld2 => ?_)
      clear hK K hHeld 
      have hHeld := hHeld2
      clear hHeld2
      try simp only [Act.put, List.setIfInBounds_toArray, List.set_cons_zero, List.set_cons_succ]
      refine takeS (i := 10) (v := ?_) rfl (by kernel_rfl) (by kernel_rfl) (by kernel_rfl) (fun _ _ _ h => h) (by rfl) (fun wS hSw => ?_) hHeld ?_
      rotate_left
      · obtain ⟨s0, s1⟩ := hSw; go_simp; try with_reducible rfl
      try simp only [Act.put, List.setIfInBounds_toArray, List.set_cons_zero, List.set_cons_succ]
      refine takeS (i := 11) (v := ?_) rfl (by kernel_rfl) (by kernel_rfl) (by kernel_rfl) (fun _ _ _ h => h) (by rfl) (fun wS hSw => ?_) hHeld ?_
      rotate_left
      · obtain ⟨s0, s1⟩ := hSw; go_simp; try with_reducible rfl
      try simp only [Act.put, List.setIfInBounds_toArray, List.set_cons_zero, List.set_cons_succ]
      refine wpAnyH_done (by kernel_rfl) ?_ _
      have h03 := HB3.out.1.size
      have hsz := hHeld.1.size
      go_wp2_with fail
      go_ret2
      refine ⟨HB3.out.1.trans (hHeld.1.mono HB3.out.1.size), _, _, rfl, ?_, ?_, ?_, L, 9, T, Kl, B, _, nb, alloc_at (by simp), HB3.out.2.2.below hHeld.1, ?_, ?_, ?_, HBd.out.1, HBd.out.2.below hHeld.1, ?_⟩
      · have h9 := HS9.out; simp at h9 ⊢; omega
      · first | (have h9 := HS9.out; simp at h9 ⊢; omega) | (have h7 := HS7.out; simp at h7 ⊢; omega)
      · intro hk; first | (simp at hk; done) | (simp at hk; omega) | (have hlt := HM.out.lt; omega) | (have hlt := HM.out.lt; simp at hk hlt; omega) | (have hlt := HM.out.lt; simp at hlt; omega)
      · exact fun hk => absurd (hF _ hk) (by first | (have h9 := HS9.out; simp at h9 ⊢; omega) | (have h7 := HS7.out; simp at h7 ⊢; omega))
      · exact fun hk => absurd (hF _ hk) (by first | (have h9 := HS9.out; simp at h9 ⊢; omega) | (have h7 := HS7.out; simp at h7 ⊢; omega))
      · repeat (first | exact HL.out | refine LkE.below ?_ (new_box _ _))
      · repeat (first | exact HM.out | (simpa using HM.out; done) | refine MapAt.below ?_ (new_box _ _))
  · skip
    go_simp
    refine hK.out _ _ (heldB1 hHeld (new_box _ _)) (fun hHeld2 => ?_)
    clear hK K hHeld 
    have hHeld := hHeld2
    clear hHeld2
    try simp only [Act.put, List.setIfInBounds_toArray, List.set_cons_zero, List.set_cons_succ]
    refine wpAnyH_ready (rs := [4, 7]) (by kernel_rfl) (by simp) (consS (i := 4) rfl (fun K hK => ?_) (consS (i := 7) rfl (fun K hK => ?_) AllReadyH.nil))
    · skip
      go_simp
      refine (lkNew0_ok _).mono ?_
      rintro e wn ⟨Kl, rfl, -, hL, hbn⟩
      have HL := Lib.hid hL
      clear hL
      first | have HM := Lib.hid (map_lift HM.out hbn rfl) | have HM := Lib.hid (map_lift (HM.out.below (new_box _ (.map #[] 0))) hbn rfl) | skip
      try go_simp
      refine hK.out _ _ (heldB1 hHeld hbn) (fun hHeld2 => ?_)
      clear hK K hHeld hbn
      have hHeld := hHeld2
      clear hHeld2
      try simp only [Act.put, List.setIfInBounds_toArray, List.set_cons_zero, List.set_cons_succ]
      refine wpAnyH_ready (rs := [7]) (by kernel_rfl) (by simp) (consS (i := 7) rfl (fun K hK => ?_) AllReadyH.nil)
      have HM := Lib.hid (mp_of hHeld)
      have HS7 := Lib.hid hHeld.1.size
      go_simp
      refine hK.out _ _ (heldB1 hHeld (new_box _ _)) (fun hHeld2 => ?_)
      clear hK K hHeld 
      have hHeld := hHeld2
      clear hHeld2
      try simp only [Act.put, List.setIfInBounds_toArray, List.set_cons_zero, List.set_cons_succ]
      refine takeS (i := 8) (v := ?_) rfl (by kernel_rfl) (by kernel_rfl) (by kernel_rfl) (fun _ _ _ h => h) (by rfl) (fun wS hSw => ?_) hHeld ?_
      rotate_left
      · obtain ⟨s0, s1⟩ := hSw; go_simp; try with_reducible rfl
      try simp only [Act.put, List.setIfInBounds_toArray, List.set_cons_zero, List.set_cons_succ]
      refine wpAnyH_ready (rs := [9]) (by kernel_rfl) (by simp) (consS (i := 9) rfl (fun K hK => ?_) AllReadyH.nil)
      have HS9 := Lib.hid hHeld.1.size
      go_simp
      refine hK.out _ _ (heldB1 hHeld (new_box _ _)) (fun hHeld2 => ?_)
      clear hK K hHeld 
      have hHeld := hHeld2
      clear hHeld2
      try simp only [Act.put, List.setIfInBounds_toArray, List.set_cons_zero, List.set_cons_succ]
      refine takeS (i := 10) (v := ?_) rfl (by kernel_rfl) (by kernel_rfl) (by kernel_rfl) (fun _ _ _ h => h) (by rfl) (fun wS hSw => ?_) hHeld ?_
      rotate_left
      · obtain ⟨s0, s1⟩ := hSw; go_simp; try with_reducible rfl
      try simp only [Act.put, List.setIfInBounds_toArray, List.set_cons_zero, List.set_cons_succ]
      refine takeS (i := 11) (v := ?_) rfl (by kernel_rfl) (by kernel_rfl) (by kernel_rfl) (fun _ _ _ h => h) (by rfl) (fun wS hSw => ?_) hHeld ?_
      rotate_left
      · obtain ⟨s0, s1⟩ := hSw; go_simp; try with_reducible rfl
      try simp only [Act.put, List.setIfInBounds_toArray, List.set_cons_zero, List.set_cons_succ]
      refine wpAnyH_done (by kernel_rfl) ?_ _
      have h03 := HB3.out.1.size
      have hsz := hHeld.1.size
      go_wp2_with fail
      go_ret2
      refine ⟨HB3.out.1.trans (hHeld.1.mono HB3.out.1.size), _, _, rfl, ?_, ?_, ?_, L, 9, T, Kl, B, _, nb, alloc_at (by simp), HB3.out.2.2.below hHeld.1, ?_, ?_, ?_, HBd.out.1, HBd.out.2.below hHeld.1, ?_⟩
      · have h9 := HS9.out; simp at h9 ⊢; omega
      · first | (have h9 := HS9.out; simp at h9 ⊢; omega) | (have h7 := HS7.out; simp at h7 ⊢; omega)
      · intro hk; first | (simp at hk; done) | (simp at hk; omega) | (have hlt := HM.out.lt; omega) | (have hlt := HM.out.lt; simp at hk hlt; omega) | (have hlt := HM.out.lt; simp at hlt; omega)
      · exact fun hk => absurd (hF _ hk) (by first | (have h9 := HS9.out; simp at h9 ⊢; omega) | (have h7 := HS7.out; simp at h7 ⊢; omega))
      · exact fun hk => absurd (hF _ hk) (by first | (have h9 := HS9.out; simp at h9 ⊢; omega) | (have h7 := HS7.out; simp at h7 ⊢; omega))
      · repeat (first | exact HL.out | refine LkE.below ?_ (new_box _ _))
      · repeat (first | exact HM.out | (simpa using HM.out; done) | refine MapAt.below ?_ (new_box _ _))
    · skip
      have HM := Lib.hid (mp_of hHeld)
      have HS7 := Lib.hid hHeld.1.size
      go_simp
      refine hK.out _ _ (heldB1 hHeld (new_box _ _)) (fun hHeld2 => ?_)
      clear hK K hHeld 
      have hHeld := hHeld2
      clear hHeld2
      try simp only [Act.put, List.setIfInBounds_toArray, List.set_cons_zero, List.set_cons_succ]
      refine wpAnyH_ready (rs := [4]) (by kernel_rfl) (by simp) (consS (i := 4) rfl (fun K hK => ?_) AllReadyH.nil)
      go_simp
      refine (lkNew0_ok _).mono ?_
      rintro e wn ⟨Kl, rfl, -, hL, hbn⟩
      have HL := Lib.hid hL
      clear hL
      first | have HM := Lib.hid (map_lift HM.out hbn rfl) | have HM := Lib.hid (map_lift (HM.out.below (new_box _ (.map #[] 0))) hbn rfl) | skip
      try go_simp
      refine hK.out _ _ (heldB1 hHeld hbn) (fun hHeld2 => ?_)
      clear hK K hHeld hbn
      have hHeld := hHeld2
      clear hHeld2
      try simp only [Act.put, List.setIfInBounds_toArray, List.set_cons_zero, List.set_cons_succ]
      refine takeS (i := 8) (v := ?_) rfl (by kernel_rfl) (by kernel_rfl) (by kernel_rfl) (fun _ _ _ h => h) (by rfl) (fun wS hSw => ?_) hHeld ?_
      rotate_left
      · obtain ⟨s0, s1⟩ := hSw; go_simp; try with_reducible rfl
      try simp only [Act.put, List.setIfInBounds_toArray, List.set_cons_zero, List.set_cons_succ]
      refine wpAnyH_ready (rs := [9]) (by kernel_rfl) (by simp) (consS (i := 9) rfl (fun K hK => ?_) AllReadyH.nil)
      have HS9 := Lib.hid hHeld.1.size
      go_simp
      refine hK.out _ _ (heldB1 hHeld (new_box _ _)) (fun hHeld2 => ?_)
      clear hK K hHeld 
      have hHeld := hHeld2
      clear hHeld2
      try simp only [Act.put, List.setIfInBounds_toArray, List.set_cons_zero, List.set_cons_succ]
      refine takeS (i := 10) (v := ?_) rfl (by kernel_rfl) (by kernel_rfl) (by kernel_rfl) (fun _ _ _ h => h) (by rfl) (fun wS hSw => ?_) hHeld ?_
      rotate_left
      · obtain ⟨s0, s1⟩ := hSw; go_simp; try with_reducible rfl
      try simp only [Act.put, List.setIfInBounds_toArray, List.set_cons_zero, List.set_cons_succ]
      refine takeS (i := 11) (v := ?_) rfl (by kernel_rfl) (by kernel_rfl) (by kernel_rfl) (fun _ _ _ h => h) (by rfl) (fun wS hSw => ?_) hHeld ?_
      rotate_left
      · obtain ⟨s0, s1⟩ := hSw; go_simp; try with_reducible rfl
      try simp only [Act.put, List.setIfInBounds_toArray, List.set_cons_zero, List.set_cons_succ]
      refine wpAnyH_done (by kernel_rfl) ?_ _
      have h03 := HB3.out.1.size
      have hsz := hHeld.1.size
      go_wp2_with fail
      go_ret2
      refine ⟨HB3.out.1.trans (hHeld.1.mono HB3.out.1.size), _, _, rfl, ?_, ?_, ?_, L, 9, T, Kl, B, _, nb, alloc_at (by simp), HB3.out.2.2.below hHeld.1, ?_, ?_, ?_, HBd.out.1, HBd.out.2.below hHeld.1, ?_⟩
      · have h9 := HS9.out; simp at h9 ⊢; omega
      · first | (have h9 := HS9.out; simp at h9 ⊢; omega) | (have h7 := HS7.out; simp at h7 ⊢; omega)
      · intro hk; first | (simp at hk; done) | (simp at hk; omega) | (have hlt := HM.out.lt; omega) | (have hlt := HM.out.lt; simp at hk hlt; omega) | (have hlt := HM.out.lt; simp at hlt; omega)
      · exact fun hk => absurd (hF _ hk) (by first | (have h9 := HS9.out; simp at h9 ⊢; omega) | (have h7 := HS7.out; simp at h7 ⊢; omega))
      · exact fun hk => absurd (hF _ hk) (by first | (have h9 := HS9.out; simp at h9 ⊢; omega) | (have h7 := HS7.out; simp at h7 ⊢; omega))
      · repeat (first | exact HL.out | refine LkE.below ?_ (new_box _ _))
      · repeat (first | exact HM.out | (simpa using HM.out; done) | refine MapAt.below ?_ (new_box _ _))
  · skip
    have HM := Lib.hid (mp_of hHeld)
    have HS7 := Lib.hid hHeld.1.size
    go_simp
    refine hK.out _ _ (heldB1 hHeld (new_box _ _)) (fun hHeld2 => ?_)
    clear hK K hHeld 
    have hHeld := hHeld2
    clear hHeld2
    try simp only [Act.put, List.setIfInBounds_toArray, List.set_cons_zero, List.set_cons_succ]
    refine wpAnyH_ready (rs := [4, 6]) (by kernel_rfl) (by simp) (consS (i := 4) rfl (fun K hK => ?_) (consS (i := 6) rfl (fun K hK => ?_) AllReadyH.nil))
    · skip
      go_simp
      refine (lkNew0_ok _).mono ?_
      rintro e wn ⟨Kl, rfl, -, hL, hbn⟩
      have HL := Lib.hid hL
      clear hL
      first | have HM := Lib.hid (map_lift HM.out hbn rfl) | have HM := Lib.hid (map_lift (HM.out.below (new_box _ (.map #[] 0))) hbn rfl) | skip
      try go_simp
      refine hK.out _ _ (heldB1 hHeld hbn) (fun hHeld2 => ?_)
      clear hK K hHeld hbn
      have hHeld := hHeld2
      clear hHeld2
      try simp only [Act.put, List.setIfInBounds_toArray, List.set_cons_zero, List.set_cons_succ]
      refine wpAnyH_ready (rs := [6]) (by kernel_rfl) (by simp) (consS (i := 6) rfl (fun K hK => ?_) AllReadyH.nil)
      go_simp
      refine hK.out _ _ (heldB1 hHeld (new_box _ _)) (fun hHeld2 => ?_)
      clear hK K hHeld 
      have hHeld := hHeld2
      clear hHeld2
      try simp only [Act.put, List.setIfInBounds_toArray, List.set_cons_zero, List.set_cons_succ]
      refine takeS (i := 8) (v := ?_) rfl (by kernel_rfl) (by kernel_rfl) (by kernel_rfl) (fun _ _ _ h => h) (by rfl) (fun wS hSw => ?_) hHeld ?_
      rotate_left
      · obtain ⟨s0, s1⟩ := hSw; go_simp; try with_reducible rfl
      try simp only [Act.put, List.setIfInBounds_toArray, List.set_cons_zero, List.set_cons_succ]
      refine wpAnyH_ready (rs := [9]) (by kernel_rfl) (by simp) (consS (i := 9) rfl (fun K hK => ?_) AllReadyH.nil)
      have HS9 := Lib.hid hHeld.1.size
      go_simp
      refine hK.out _ _ (heldB1 hHeld (new_box _ _)) (fun hHeld2 => ?_)
      clear hK K hHeld 
      have hHeld := hHeld2
      clear hHeld2
      try simp only [Act.put, List.setIfInBounds_toArray, List.set_cons_zero, List.set_cons_succ]
      refine takeS (i := 10) (v := ?_) rfl (by kernel_rfl) (by kernel_rfl) (by kernel_rfl) (fun _ _ _ h => h) (by rfl) (fun wS hSw => ?_) hHeld ?_
      rotate_left
      · obtain ⟨s0, s1⟩ := hSw; go_simp; try with_reducible rfl
      try simp only [Act.put, List.setIfInBounds_toArray, List.set_cons_zero, List.set_cons_succ]
      refine takeS (i := 11) (v := ?_) rfl (by kernel_rfl) (by kernel_rfl) (by kernel_rfl) (fun _ _ _ h => h) (by rfl) (fun wS hSw => ?_) hHeld ?_
      rotate_left
      · obtain ⟨s0, s1⟩ := hSw; go_simp; try with_reducible rfl
      try simp only [Act.put, List.setIfInBounds_toArray, List.set_cons_zero, List.set_cons_succ]
      refine wpAnyH_done (by kernel_rfl) ?_ _
      have h03 := HB3.out.1.size
      have hsz := hHeld.1.size
      go_wp2_with fail
      go_ret2
      refine ⟨HB3.out.1.trans (hHeld.1.mono HB3.out.1.size), _, _, rfl, ?_, ?_, ?_, L, 9, T, Kl, B, _, nb, alloc_at (by simp), HB3.out.2.2.below hHeld.1, ?_, ?_, ?_, HBd.out.1, HBd.out.2.below hHeld.1, ?_⟩
      · have h9 := HS9.out; simp at h9 ⊢; omega
      · first | (have h9 := HS9.out; simp at h9 ⊢; omega) | (have h7 := HS7.out; simp at h7 ⊢; omega)
      · intro hk; first | (simp at hk; done) | (simp at hk; omega) | (have hlt := HM.out.lt; omega) | (have hlt := HM.out.lt; simp at hk hlt; omega) | (have hlt := HM.out.lt; simp at hlt; omega)
      · exact fun hk => absurd (hF _ hk) (by first | (have h9 := HS9.out; simp at h9 ⊢; omega) | (have h7 := HS7.out; simp at h7 ⊢; omega))
      · exact fun hk => absurd (hF _ hk) (by first | (have h9 := HS9.out; simp at h9 ⊢; omega) | (have h7 := HS7.out; simp at h7 ⊢; omega))
      · repeat (first | exact HL.out | refine LkE.below ?_ (new_box _ _))
      · repeat (first | exact HM.out | (simpa using HM.out; done) | refine MapAt.below ?_ (new_box _ _))
    · skip
      go_simp
      refine hK.out _ _ (heldB1 hHeld (new_box _ _)) (fun hHeld2 => ?_)
      clear hK K hHeld 
      have hHeld := hHeld2
      clear hHeld2
      try simp only [Act.put, List.setIfInBounds_toArray, List.set_cons_zero, List.set_cons_succ]
      refine wpAnyH_ready (rs := [4]) (by kernel_rfl) (by simp) (consS (i := 4) rfl (fun K hK => ?_) AllReadyH.nil)
      go_simp
      refine (lkNew0_ok _).mono ?_
      rintro e wn ⟨Kl, rfl, -, hL, hbn⟩
      have HL := Lib.hid hL
      clear hL
      first | have HM := Lib.hid (map_lift HM.out hbn rfl) | have HM := Lib.hid (map_lift (HM.out.below (new_box _ (.map #[] 0))) hbn rfl) | skip
      try go_simp
      refine hK.out _ _ (heldB1 hHeld hbn) (fun hHeld2 => ?_)
      clear hK K hHeld hbn
      have hHeld := hHeld2
      clear hHeld2
      try simp only [Act.put, List.setIfInBounds_toArray, List.set_cons_zero, List.set_cons_succ]
      refine takeS (i := 8) (v := ?_) rfl (by kernel_rfl) (by kernel_rfl) (by kernel_rfl) (fun _ _ _ h => h) (by rfl) (fun wS hSw => ?_) hHeld ?_
      rotate_left
      · obtain ⟨s0, s1⟩ := hSw; go_simp; try with_reducible rfl
      try simp only [Act.put, List.setIfInBounds_toArray, List.set_cons_zero, List.set_cons_succ]
      refine wpAnyH_ready (rs := [9]) (by kernel_rfl) (by simp) (consS (i := 9) rfl (fun K hK => ?_) AllReadyH.nil)
      have HS9 := Lib.hid hHeld.1.size
      go_simp
      refine hK.out _ _ (heldB1 hHeld (new_box _ _)) (fun hHeld2 => ?_)
      clear hK K hHeld 
      have hHeld := hHeld2
      clear hHeld2
      try simp only [Act.put, List.setIfInBounds_toArray, List.set_cons_zero, List.set_cons_succ]
      refine takeS (i := 10) (v := ?_) rfl (by kernel_rfl) (by kernel_rfl) (by kernel_rfl) (fun _ _ _ h => h) (by rfl) (fun wS hSw => ?_) hHeld ?_
      rotate_left
      · obtain ⟨s0, s1⟩ := hSw; go_simp; try with_reducible rfl
      try simp only [Act.put, List.setIfInBounds_toArray, List.set_cons_zero, List.set_cons_succ]
      refine takeS (i := 11) (v := ?_) rfl (by kernel_rfl) (by kernel_rfl) (by kernel_rfl) (fun _ _ _ h => h) (by rfl) (fun wS hSw => ?_) hHeld ?_
      rotate_left
      · obtain ⟨s0, s1⟩ := hSw; go_simp; try with_reducible rfl
      try simp only [Act.put, List.setIfInBounds_toArray, List.set_cons_zero, List.set_cons_succ]
      refine wpAnyH_done (by kernel_rfl) ?_ _
      have h03 := HB3.out.1.size
      have hsz := hHeld.1.size
      go_wp2_with fail
      go_ret2
      refine ⟨HB3.out.1.trans (hHeld.1.mono HB3.out.1.size), _, _, rfl, ?_, ?_, ?_, L, 9, T, Kl, B, _, nb, alloc_at (by simp), HB3.out.2.2.below hHeld.1, ?_, ?_, ?_, HBd.out.1, HBd.out.2.below hHeld.1, ?_⟩
      · have h9 := HS9.out; simp at h9 ⊢; omega
      · first | (have h9 := HS9.out; simp at h9 ⊢; omega) | (have h7 := HS7.out; simp at h7 ⊢; omega)
      · intro hk; first | (simp at hk; done) | (simp at hk; omega) | (have hlt := HM.out.lt; omega) | (have hlt := HM.out.lt; simp at hk hlt; omega) | (have hlt := HM.out.lt; simp at hlt; omega)
      · exact fun hk => absurd (hF _ hk) (by first | (have h9 := HS9.out; simp at h9 ⊢; omega) | (have h7 := HS7.out; simp at h7 ⊢; omega))
      · exact fun hk => absurd (hF _ hk) (by first | (have h9 := HS9.out; simp at h9 ⊢; omega) | (have h7 := HS7.out; simp at h7 ⊢; omega))
      · repeat (first | exact HL.out | refine LkE.below ?_ (new_box _ _))
      · repeat (first | exact HM.out | (simpa using HM.out; done) | refine MapAt.below ?_ (new_box _ _))
set_option maxRecDepth 100000 in
set_option maxHeartbeats 1000000 in
theorem exActsN_ok (w : World) (F : Nat → Prop) (R m2 : Nat) (cnt : Nat) (g : Value → Option Value) (h : RepG w F R m2 1 cnt g) : Calls Tryz.prog 19 #[.pointer (some ⟨R, 0, none⟩)] w fun e w' => e = .returned (.slice none 0 0) ∧ Below w.heap.size w w' := by
  obtain ⟨L, f, T, Kl, B, m1, n, h0, h1, -, -, h3, h4, h5, -⟩ := h
  have HX := Lib.hid (And.intro h0 (And.intro h1 (And.intro h3 (And.intro h4 h5))))
  clear h0 h1 h3 h4 h5
  go_enter Tryz.func19, Tryz.ntmps19
  go_wp2_with fail
  refine wp_region_held_drew (S := (fun w' => Below w.heap.size w w' ∧ w'.heap[R]? = some (repG L f T Kl B m1 m2 1))) (by kernel_rfl) ⟨(Below.refl _ _).drew, HX.out.1⟩ (fun hHeld => ?_)
  refine takeS (i := 0) (v := ?_) rfl (by kernel_rfl) (by kernel_rfl) (by kernel_rfl) (fun _ _ _ h => h) (by rfl) (fun wS hSw => ?_) hHeld ?_
  rotate_left
  · obtain ⟨s0, s1⟩ := hSw; go_simp; try with_reducible rfl
  try simp only [Act.put, List.setIfInBounds_toArray, List.set_cons_zero, List.set_cons_succ]
  refine takeS (i := 1) (v := ?_) rfl (by kernel_rfl) (by kernel_rfl) (by kernel_rfl) (fun _ _ _ h => h) (by rfl) (fun wS hSw => ?_) hHeld ?_
  rotate_left
  · obtain ⟨s0, s1⟩ := hSw; go_simp; try with_reducible rfl
  try simp only [Act.put, List.setIfInBounds_toArray, List.set_cons_zero, List.set_cons_succ]
  refine takeS (i := 2) (v := ?_) rfl (by kernel_rfl) (by kernel_rfl) (by kernel_rfl) (fun _ _ _ h => h) (by rfl) (fun wS hSw => ?_) hHeld ?_
  rotate_left
  · obtain ⟨s0, s1⟩ := hSw; go_simp; try with_reducible rfl
  try simp only [Act.put, List.setIfInBounds_toArray, List.set_cons_zero, List.set_cons_succ]
  refine takeS (i := 3) (v := ?_) rfl (by kernel_rfl) (by kernel_rfl) (by kernel_rfl) (fun _ _ _ h => h) (by rfl) (fun wS hSw => ?_) hHeld ?_
  rotate_left
  · obtain ⟨s0, s1⟩ := hSw; obtain ⟨⟨r0, r3, r4, r6, r7⟩, -⟩ := repG_cells s1; go_simp; try with_reducible rfl
  try simp only [Act.put, List.setIfInBounds_toArray, List.set_cons_zero, List.set_cons_succ]
  refine takeS (i := 4) (v := ?_) rfl (by kernel_rfl) (by kernel_rfl) (by kernel_rfl) (fun _ _ _ h => h) (by rfl) (fun wS hSw => ?_) hHeld ?_
  rotate_left
  · obtain ⟨s0, s1⟩ := hSw; go_simp; try with_reducible rfl
  try simp only [Act.put, List.setIfInBounds_toArray, List.set_cons_zero, List.set_cons_succ]
  refine takeS (i := 5) (v := ?_) rfl (by kernel_rfl) (by kernel_rfl) (by kernel_rfl) (fun _ _ _ h => h) (by rfl) (fun wS hSw => ?_) hHeld ?_
  rotate_left
  · obtain ⟨s0, s1⟩ := hSw; go_simp; try with_reducible rfl
  try simp only [Act.put, List.setIfInBounds_toArray, List.set_cons_zero, List.set_cons_succ]
  refine takeS (i := 6) (v := ?_) rfl (by kernel_rfl) (by kernel_rfl) (by kernel_rfl) (fun _ _ _ h => h) (by rfl) (fun wS hSw => ?_) hHeld ?_
  rotate_left
  · obtain ⟨s0, s1⟩ := hSw; go_simp; try with_reducible rfl
  try simp only [Act.put, List.setIfInBounds_toArray, List.set_cons_zero, List.set_cons_succ]
  refine takeS (i := 7) (v := ?_) rfl (by kernel_rfl) (by kernel_rfl) (by kernel_rfl) (fun _ _ _ h => h) (by rfl) (fun wS hSw => ?_) hHeld ?_
  rotate_left
  · obtain ⟨s0, s1⟩ := hSw; obtain ⟨⟨r0, r3, r4, r6, r7⟩, -⟩ := repG_cells s1; go_simp; try with_reducible rfl
  try simp only [Act.put, List.setIfInBounds_toArray, List.set_cons_zero, List.set_cons_succ]
  refine takeS (i := 8) (v := ?_) rfl (by kernel_rfl) (by kernel_rfl) (by kernel_rfl) (fun _ _ _ h => h) (by rfl) (fun wS hSw => ?_) hHeld ?_
  rotate_left
  · obtain ⟨s0, s1⟩ := hSw; go_simp; try with_reducible rfl
  try simp only [Act.put, List.setIfInBounds_toArray, List.set_cons_zero, List.set_cons_succ]
  refine takeS (i := 9) (v := ?_) rfl (by kernel_rfl) (by kernel_rfl) (by kernel_rfl) (fun _ _ _ h => h) (by rfl) (fun wS hSw => ?_) hHeld ?_
  rotate_left
  · obtain ⟨s0, s1⟩ := hSw; go_simp; try with_reducible rfl
  try simp only [Act.put, List.setIfInBounds_toArray, List.set_cons_zero, List.set_cons_succ]
  refine takeS (i := 10) (v := ?_) rfl (by kernel_rfl) (by kernel_rfl) (by kernel_rfl) (fun _ _ _ h => h) (by rfl) (fun wS hSw => ?_) hHeld ?_
  rotate_left
  · obtain ⟨s0, s1⟩ := hSw; go_simp; try with_reducible rfl
  try simp only [Act.put, List.setIfInBounds_toArray, List.set_cons_zero, List.set_cons_succ]
  refine takeS (i := 11) (v := ?_) rfl (by kernel_rfl) (by kernel_rfl) (by kernel_rfl) (fun _ _ _ h => h) (by rfl) (fun wS hSw => ?_) hHeld ?_
  rotate_left
  · obtain ⟨s0, s1⟩ := hSw; obtain ⟨⟨r0, r3, r4, r6, r7⟩, -⟩ := repG_cells s1; go_simp; try with_reducible rfl
  try simp only [Act.put, List.setIfInBounds_toArray, List.set_cons_zero, List.set_cons_succ]
  refine takeS (i := 14) (v := ?_) rfl (by kernel_rfl) (by kernel_rfl) (by kernel_rfl) (fun _ _ _ h => h) (by rfl) (fun wS hSw => ?_) hHeld ?_
  rotate_left
  · obtain ⟨s0, s1⟩ := hSw; go_simp; try with_reducible rfl
  try simp only [Act.put, List.setIfInBounds_toArray, List.set_cons_zero, List.set_cons_succ]
  refine takeS (i := 15) (v := ?_) rfl (by kernel_rfl) (by kernel_rfl) (by kernel_rfl) (fun _ _ _ h => h) (by rfl) (fun wS hSw => ?_) hHeld ?_
  rotate_left
  · obtain ⟨s0, s1⟩ := hSw; go_simp; try with_reducible rfl
  try simp only [Act.put, List.setIfInBounds_toArray, List.set_cons_zero, List.set_cons_succ]
  refine takeS (i := 16) (v := ?_) rfl (by kernel_rfl) (by kernel_rfl) (by kernel_rfl) (fun _ _ _ h => h) (by rfl) (fun wS hSw => ?_) hHeld ?_
  rotate_left
  · obtain ⟨s0, s1⟩ := hSw; go_simp; try with_reducible rfl
  try simp only [Act.put, List.setIfInBounds_toArray, List.set_cons_zero, List.set_cons_succ]
  refine takeS (i := 17) (v := ?_) rfl (by kernel_rfl) (by kernel_rfl) (by kernel_rfl) (fun _ _ _ h => h) (by rfl) (fun wS hSw => ?_) hHeld ?_
  rotate_left
  · obtain ⟨s0, s1⟩ := hSw; obtain ⟨⟨r0, r3, r4, r6, r7⟩, -⟩ := repG_cells s1; go_simp; try with_reducible rfl
  try simp only [Act.put, List.setIfInBounds_toArray, List.set_cons_zero, List.set_cons_succ]
  refine wpAnyH_ready (rs := [12]) (by kernel_rfl) (by simp) (consS (i := 12) rfl (fun K hK => ?_) AllReadyH.nil)
  go_simp
  refine (loglen_ok _ F L [[]] (HX.out.2.1.below hHeld.1)).mono ?_
  rintro e wn ⟨rfl, rfl⟩
  try go_simp
  refine hK.out _ _ (hHeld) (fun hHeld2 => ?_)
  clear hK K hHeld 
  have hHeld := hHeld2
  clear hHeld2
  try simp only [Act.put, List.setIfInBounds_toArray, List.set_cons_zero, List.set_cons_succ]
  refine takeS (i := 13) (v := ?_) rfl (by kernel_rfl) (by kernel_rfl) (by kernel_rfl) (fun _ _ _ h => h) (by rfl) (fun wS hSw => ?_) hHeld ?_
  rotate_left
  · obtain ⟨s0, s1⟩ := hSw; go_simp; try with_reducible rfl
  try simp only [Act.put, List.setIfInBounds_toArray, List.set_cons_zero, List.set_cons_succ]
  refine wpAnyH_ready (rs := [18]) (by kernel_rfl) (by simp) (consS (i := 18) rfl (fun K hK => ?_) AllReadyH.nil)
  go_simp
  refine (lkReady0_ok _ Kl (HX.out.2.2.1.below hHeld.1)).mono ?_
  rintro e wn ⟨rfl, hbn⟩
  try go_simp
  refine hK.out _ _ (heldB1 hHeld hbn) (fun hHeld2 => ?_)
  clear hK K hHeld hbn
  have hHeld := hHeld2
  clear hHeld2
  try simp only [Act.put, List.setIfInBounds_toArray, List.set_cons_zero, List.set_cons_succ]
  refine wpAnyH_ready (rs := [19]) (by kernel_rfl) (by simp) (consS (i := 19) rfl (fun K hK => ?_) AllReadyH.nil)
  go_simp
  refine (bacts0_ok _ B n HX.out.2.2.2.1 (HX.out.2.2.2.2.below hHeld.1)).mono ?_
  rintro e wn ⟨rfl, hbn⟩
  try go_simp
  refine hK.out _ _ (heldB1 hHeld hbn) (fun hHeld2 => ?_)
  clear hK K hHeld hbn
  have hHeld := hHeld2
  clear hHeld2
  try simp only [Act.put, List.setIfInBounds_toArray, List.set_cons_zero, List.set_cons_succ]
  refine takeS (i := 20) (v := ?_) rfl (by kernel_rfl) (by kernel_rfl) (by kernel_rfl) (fun _ _ _ h => h) (by rfl) (fun wS hSw => ?_) hHeld ?_
  rotate_left
  · obtain ⟨s0, s1⟩ := hSw; go_simp; try with_reducible rfl
  try simp only [Act.put, List.setIfInBounds_toArray, List.set_cons_zero, List.set_cons_succ]
  refine wpAnyH_done (by kernel_rfl) ?_ _
  have HZ := Lib.hid hHeld.1
  clear hHeld
  go_wp2_with fail
  go_ret
  exact ⟨rfl, HZ.out⟩
set_option maxRecDepth 100000 in
theorem exIdleN_ok (w : World) (F : Nat → Prop) (R m2 : Nat) (cnt : Nat) (g : Value → Option Value) (h : RepG w F R m2 1 cnt g) : Calls Tryz.prog 18 #[.pointer (some ⟨R, 0, none⟩)] w fun e w' => e = .returned (.bool true) ∧ Below w.heap.size w w' := by
  have H := Lib.hid (exActsN_ok w F R m2 cnt g h)
  clear h
  go_enter Tryz.func18, Tryz.ntmps18
  go_wp2_with fail
  refine H.out.mono ?_
  rintro e w1 ⟨rfl, hb⟩
  have HB := Lib.hid hb
  clear hb
  go_wp2_with fail
  go_ret
  exact ⟨rfl, HB.out⟩
end Go.Proofs.YtiacbhnkcllpjaaGreatDoor
