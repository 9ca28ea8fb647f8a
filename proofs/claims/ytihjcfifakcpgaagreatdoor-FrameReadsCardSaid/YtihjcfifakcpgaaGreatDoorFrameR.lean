/- frame.read's boxes and closures: in every order in which they may be made. -/
import Derived.Test.YtihjcfifakcpgaaGreatDoorFrameN
import Derived.Test.YtihjcfifakcpgaaGreatDoorFrameC
namespace Go.Proofs.YtihjcfifakcpgaaGreatDoor
set_option maxRecDepth 100000
open Go.RowKit

/-- An entry that is read, out of all that is left. -/
def rdEnt (bs : List UInt8) : Option FE :=
  match rdNs rdUI 1 bs with
  | some ([id], r) => match rdL rdOp 64 r with
    | some (ops, r2) => match rdL rdI 8 r2 with
      | some (args, r3) => match rdL rdCl 64 r3 with
        | some (cls, r4) => if r4 = [] then some ⟨id, ops, args, cls⟩ else none
        | none => none
      | none => none
    | none => none
  | _ => none
def NewC (b : Nat) (w : World) (B5 B6 X1 X2 : Nat) (w' : World) : Prop := Below w.heap.size w w' ∧ RdC b B5 B6 X1 X2 w' ∧ w.heap.size ≤ B5 ∧ w.heap.size ≤ B6 ∧ w.heap.size ≤ X1 ∧ w.heap.size ≤ X2
/-- New blocks of one cell each, by what they hold. -/
def Cel (w w' : World) (L : List (Nat × Value)) : Prop :=
  Below w.heap.size w w' ∧ (L.map Prod.fst).Nodup ∧ ∀ x ∈ L, w.heap.size ≤ x.1 ∧ ∃ t, w'.heap[x.1]? = some (.cells #[x.2] t (0, 0))
section
variable {w w' : World} {L : List (Nat × Value)}
theorem Cel.start (w : World) : Cel w w [] := ⟨Below.refl _ _, by simp, by simp⟩
theorem Cel.drew (h : Cel w w' L) : Cel w w'.drew L := ⟨h.1.drew, h.2.1, h.2.2⟩
theorem Cel.alloc (h : Cel w w' L) (v : Value) (t : TypeId) : Cel w (w'.alloc (.cells #[v] t)) ((w'.heap.size, v) :: L) := by
  have hs := h.1.size
  have hlt : ∀ x ∈ L, x.1 < w'.heap.size := fun x hx => by obtain ⟨_, t, ht⟩ := h.2.2 x hx; exact (Array.getElem?_eq_some_iff.1 ht).1
  refine ⟨h.1.alloc hs _, ?_, fun x hx => ?_⟩
  · simp only [List.map_cons, List.nodup_cons]
    refine ⟨fun hm => ?_, h.2.1⟩
    obtain ⟨y, hy, he⟩ := List.mem_map.1 hm
    have := hlt y hy
    omega
  · rcases List.mem_cons.1 hx with rfl | hx
    · exact ⟨hs, t, heap_alloc_new _ _⟩
    · obtain ⟨h1, t', ht⟩ := h.2.2 x hx
      exact ⟨h1, t', (Only.of_below (one_box w' _) (fun _ => False)).heap ht id⟩
theorem Cel.at_ (h : Cel w w' L) (i : Nat) {B : Nat} {v : Value} (hi : L[i]? = some (B, v)) : w'.cell? ⟨B, 0, none⟩ = some v ∧ w'.frozen? ⟨B, 0, none⟩ = false := by
  obtain ⟨_, t, ht⟩ := h.2.2 _ (List.mem_of_getElem? hi)
  exact ⟨by simp [World.cell?, ht], by simp [World.frozen?, ht]⟩
theorem Cel.set (h : Cel w w' L) (i : Nat) {B : Nat} {v0 : Value} (hi : L[i]? = some (B, v0)) (v : Value) : Cel w (w'.setCell ⟨B, 0, none⟩ v) (L.set i (B, v)) := by
  have hm := List.mem_of_getElem? hi
  obtain ⟨hB, t0, ht0⟩ := h.2.2 _ hm
  have hmap : (L.set i (B, v)).map Prod.fst = L.map Prod.fst := by
    rw [List.map_set]
    refine List.ext_getElem? fun j => ?_
    rw [List.getElem?_set]
    split
    · rename_i e
      subst e
      split
      · simp [hi]
      · rename_i hl
        simp at hl
        simp [List.getElem?_eq_none hl]
    · rfl
  refine ⟨h.1.setCell hB _, hmap ▸ h.2.1, fun x hx => ?_⟩
  obtain ⟨j, hj⟩ := List.mem_iff_getElem?.1 hx
  by_cases hji : j = i
  · subst hji
    rw [List.getElem?_set_self (List.getElem?_eq_some_iff.1 hi).1] at hj
    injection hj with hj
    subst hj
    exact ⟨hB, t0, by simp [World.setCell, Array.getElem?_modify, ht0]⟩
  · rw [List.getElem?_set_ne (fun e => hji e.symm)] at hj
    obtain ⟨h1, t', ht'⟩ := h.2.2 _ (List.mem_of_getElem? hj)
    refine ⟨h1, t', ?_⟩
    have hne : x.1 ≠ B := by
      intro e
      have g1 : (L.map Prod.fst)[j]? = some B := by simp [hj, e]
      have g2 : (L.map Prod.fst)[i]? = some B := by simp [hi]
      have l1 := (List.getElem?_eq_some_iff.1 g1).1
      exact hji ((List.getElem?_inj l1 h.2.1).1 (g1.trans g2.symm))
    exact (Only.set1 w' B 0 v).heap ht' hne
theorem Cel.newC {b B5 B6 X1 X2 : Nat} (h : Cel w w' L) (h5 : (B5, (Value.func (.func 108) #[] #[.pointer (some ⟨X1, 0, none⟩)])) ∈ L) (h6 : (B6, (Value.func (.func 108) #[] #[.pointer (some ⟨X2, 0, none⟩)])) ∈ L)
    (h1 : (X1, (Value.func (.func 82) #[.pointer (some ⟨b, 0, none⟩)] #[])) ∈ L) (h2 : (X2, (Value.func (.func 83) #[.pointer (some ⟨b, 0, none⟩)] #[])) ∈ L) : NewC b w B5 B6 X1 X2 w' := by
  obtain ⟨q5, _, k5⟩ := h.2.2 _ h5
  obtain ⟨q6, _, k6⟩ := h.2.2 _ h6
  obtain ⟨q1, _, k1⟩ := h.2.2 _ h1
  obtain ⟨q2, _, k2⟩ := h.2.2 _ h2
  exact ⟨h.1, ⟨by simp [World.cell?, k5], by simp [World.cell?, k6], by simp [World.cell?, k1], by simp [World.cell?, k2]⟩, q5, q6, q1, q2⟩
end
theorem RdQ.start {F : Nat → Prop} {b : Nat} {all : List UInt8} {p T B5 B6 X1 X2 : Nat} {t : TypeId} {cs : Array Value} {w w3 wc : World} (h : RdrAt w F b all p) (hF : ∀ k, F k → k < w.heap.size) (hb : Below w.heap.size w w3) (hT : w3.heap[T]? = some (.cells cs t (0, 0))) (hT2 : w.heap.size ≤ T) (hN : NewC b w3 B5 B6 X1 X2 wc) : RdQ F b all B5 B6 X1 X2 T t p cs wc := by
  obtain ⟨hN1, hN2, g5, g6, g1, g2⟩ := hN
  have hs := hb.size
  have hT3 : T < w3.heap.size := (Array.getElem?_eq_some_iff.1 hT).1
  have hbl : b < w.heap.size := by obtain ⟨v, k1, _⟩ := h; exact (Array.getElem?_eq_some_iff.1 k1).1
  refine ⟨h.below (hb.trans (hN1.mono hs)), hN2, (Only.of_below hN1 (fun _ => False)).heap hT id, fun hk => ?_, ⟨by omega, by omega, by omega, by omega⟩, ⟨by omega, by omega, by omega, by omega⟩, fun k hk => ?_⟩
  · have := hF _ hk
    omega
  · have := hF _ hk
    have := hN1.size
    omega
theorem RdQ.again {F : Nat → Prop} {b : Nat} {all : List UInt8} {p p' T B5 B6 X1 X2 : Nat} {t : TypeId} {cs : Array Value} {w w' : World} (h : RdQ F b all B5 B6 X1 X2 T t p cs w) (ho : Only (fun k => k = b) w w') (h' : RdB F b all B5 B6 X1 X2 p' w') : RdQ F b all B5 B6 X1 X2 T t p' cs w' :=
  ⟨h'.1, h'.2.1, ho.heap h.2.2.1 h.nb, h.2.2.2.1, h.2.2.2.2.1, h.2.2.2.2.2.1, h'.2.2.2⟩
/-- A block of four cells. -/
theorem blk4 {w : World} {B : Nat} {a0 a1 a2 a3 : Value} {t : TypeId} (h : w.heap[B]? = some (.cells #[a0, a1, a2, a3] t (0, 0))) :
    (w.cell? ⟨B, 0, none⟩ = some a0 ∧ w.cell? ⟨B, 1, none⟩ = some a1 ∧ w.cell? ⟨B, 2, none⟩ = some a2 ∧ w.cell? ⟨B, 3, none⟩ = some a3) ∧ w.frozen? ⟨B, 0, none⟩ = false ∧ w.frozen? ⟨B, 1, none⟩ = false ∧ w.frozen? ⟨B, 2, none⟩ = false ∧ w.frozen? ⟨B, 3, none⟩ = false := by
  refine ⟨⟨?_, ?_, ?_, ?_⟩, ?_, ?_, ?_, ?_⟩ <;> simp [World.cell?, World.frozen?, h]
theorem put4 {w : World} {B : Nat} {a0 a1 a2 a3 : Value} {t : TypeId} (h : w.heap[B]? = some (.cells #[a0, a1, a2, a3] t (0, 0))) (v0 v1 v2 v3 : Value) :
    ((((w.setCell ⟨B, 0, none⟩ v0).setCell ⟨B, 1, none⟩ v1).setCell ⟨B, 2, none⟩ v2).setCell ⟨B, 3, none⟩ v3).heap[B]? = some (.cells #[v0, v1, v2, v3] t (0, 0)) := by
  have h0 := heap_setCell_same w B 0 _ t v0 h
  have h1 := heap_setCell_same _ B 1 _ t v1 h0
  have h2 := heap_setCell_same _ B 2 _ t v2 h1
  have h3 := heap_setCell_same _ B 3 _ t v3 h2
  simpa using h3
theorem only4 {w w0 : World} {B b : Nat} (h : Only (fun k => k = b) w0 w) (hB : w0.heap.size ≤ B) (v0 v1 v2 v3 : Value) :
    Only (fun k => k = b) w0 ((((w.setCell ⟨B, 0, none⟩ v0).setCell ⟨B, 1, none⟩ v1).setCell ⟨B, 2, none⟩ v2).setCell ⟨B, 3, none⟩ v3) :=
  (((h.setCell (p := ⟨B, 0, none⟩) (fun e => absurd e (Nat.not_lt.2 hB)) v0).setCell (p := ⟨B, 1, none⟩) (fun e => absurd e (Nat.not_lt.2 hB)) v1).setCell (p := ⟨B, 2, none⟩) (fun e => absurd e (Nat.not_lt.2 hB)) v2).setCell (p := ⟨B, 3, none⟩) (fun e => absurd e (Nat.not_lt.2 hB)) v3
/-- What reading an entry comes to. -/
def ReadQ (b : Nat) (all : List UInt8) (p : Nat) (w : World) (e : Ending) (w' : World) : Prop :=
  Only (fun k => k = b) w w' ∧ match rdEnt (all.drop p) with
    | some x => ∃ vo va vc, e = .returned (.tuple #[entV x vo va vc, .bool true]) ∧ OpRd w' (fun k => w.heap.size ≤ k) vo x.ops ∧ Rd w' (fun k => w.heap.size ≤ k) va (ivs x.args) ∧ ClRd w' (fun k => w.heap.size ≤ k) vc x.cls
    | none => e = .returned (.tuple #[.agg #[.int .i64 0, .slice none 0 0, .slice none 0 0, .slice none 0 0], .bool false])

@[go_sem] theorem run_store_func {P : Program} {w : World} {a : Addr} {m : Mode} (f : Fn) (x y : Array Value) : (store a (.func f x y) m).run P w = stored P w a (.func f x y) m := run_store P w a _ m rfl

set_option maxRecDepth 100000 in
set_option maxHeartbeats 1000000 in
theorem Left_ok (w : World) (F : Nat → Prop) (b : Nat) (all : List UInt8) (p : Nat) (h : RdrAt w F b all p) : Calls Tryz.prog 91 #[.pointer (some ⟨b, 0, none⟩)] w fun e w' => e = .returned (.int .i64 ((all.length : Int) - p)) ∧ Only (fun _ => False) w w' := by
  obtain ⟨A, c, c0, c1, _, _, hp, hlc, hcm, _⟩ := h.at_
  unfold maxLen at hcm
  have HP := Lib.hid (And.intro hp hlc)
  clear h
  have hw : IntKind.i64.wrap ((all.length : Int) - p) = (all.length : Int) - p := by rw [IntKind.wrap_i64]; omega
  have hw2 : wrap64 ((all.length : Int) - p) = (all.length : Int) - p := by unfold wrap64; omega
  go_enter Tryz.func91, Tryz.ntmps91
  go_wp2_with fail
  go_region_held3 (fun w' => w'.cell? ⟨b, 0, none⟩ = some (.slice A all.length c) ∧ w'.cell? ⟨b, 1, none⟩ = some (.int .i64 p)) (first | exact ⟨by assumption, by assumption⟩ | go_keep) (fail)
  go_wp2_with fail
  go_ret
  exact ⟨by go_num, (Only.refl _ _).drew⟩

theorem only4b (w : World) (B : Nat) (v0 v1 v2 v3 : Value) : Only (fun k => k = B) w ((((w.setCell ⟨B, 0, none⟩ v0).setCell ⟨B, 1, none⟩ v1).setCell ⟨B, 2, none⟩ v2).setCell ⟨B, 3, none⟩ v3) :=
  (((Only.set1 w B 0 v0).setCell (p := ⟨B, 1, none⟩) (fun _ => rfl) v1).setCell (p := ⟨B, 2, none⟩) (fun _ => rfl) v2).setCell (p := ⟨B, 3, none⟩) (fun _ => rfl) v3
theorem nums_rd {w : World} {F : Nat → Prop} {v : Value} {l : List Int} (h : RdK 1 w F v (l.map numC)) : Rd w F v (ivs l) := by
  obtain ⟨A, n, c, rfl, hl, hc, hm, hx⟩ := h
  refine ⟨A, n, c, rfl, by simpa [ivs] using hl, hc, hm, fun hn => ?_⟩
  obtain ⟨b, o, rfl, hb, hu⟩ := hx hn
  refine ⟨b, o, rfl, hb, fun j u hj => ?_⟩
  simp only [ivs, List.getElem?_map] at hj
  cases hlj : l[j]? with
  | none => rw [hlj] at hj; simp at hj
  | some m =>
    rw [hlj] at hj
    simp at hj
    subst hj
    have := hu j (numC m) (by simp [hlj]) 0 (.int .i64 m) (by simp [numC])
    simpa using this

set_option maxRecDepth 100000 in
set_option maxHeartbeats 16000000 in
theorem read_entry (F : Nat → Prop) (b : Nat) (all : List UInt8) (p : Nat) (w : World) (h : RdrAt w F b all p) (hF : ∀ k, F k → k < w.heap.size) :
    Calls Tryz.prog 54 #[.pointer (some ⟨b, 0, none⟩)] w (ReadQ b all p w) := by
  obtain ⟨w3, hw3⟩ : ∃ x, ((w.alloc (.cells #[.pointer (some ⟨b, 0, none⟩)] 95)).alloc (.cells #[.int .i64 0, .slice none 0 0, .slice none 0 0, .slice none 0 0] 26)).alloc (.cells #[.int .i64 0, .slice none 0 0, .slice none 0 0, .slice none 0 0] 26) = x := ⟨_, rfl⟩
  have hbl := below3 w (.cells #[.pointer (some ⟨b, 0, none⟩)] 95) (.cells #[.int .i64 0, .slice none 0 0, .slice none 0 0, .slice none 0 0] 26) (.cells #[.int .i64 0, .slice none 0 0, .slice none 0 0, .slice none 0 0] 26)
  have c1 : w3.cell? ⟨w.heap.size, 0, none⟩ = some (.pointer (some ⟨b, 0, none⟩)) := by
    rw [← hw3]
    exact cell_alloc_any (cell_alloc_any (by have := heap_alloc_new w (.cells #[.pointer (some ⟨b, 0, none⟩)] 95); simp only [World.cell?, this]; rfl) _) _
  have k2 : w3.heap[w.heap.size + 1]? = some (.cells #[.int .i64 0, .slice none 0 0, .slice none 0 0, .slice none 0 0] 26 (0, 0)) := by
    rw [← hw3]
    refine (Only.of_below (one_box _ _) (fun _ => False)).heap ?_ id
    have := heap_alloc_new (w.alloc (.cells #[.pointer (some ⟨b, 0, none⟩)] 95)) (.cells #[.int .i64 0, .slice none 0 0, .slice none 0 0, .slice none 0 0] 26)
    simpa using this
  have k4 : w3.heap[w.heap.size + 1 + 1]? = some (.cells #[.int .i64 0, .slice none 0 0, .slice none 0 0, .slice none 0 0] 26 (0, 0)) := by
    rw [← hw3]
    exact new3 _ _ _ _
  rw [hw3] at hbl
  go_enter Tryz.func54, Tryz.ntmps54
  go_upto_region 2 with fail
  have hb1 : w.heap.size < w3.heap.size := World.block_lt_of_cell? _ _ c1
  have HK := Lib.hid (And.intro hbl (And.intro k2 k4))
  have HR := Lib.hid (And.intro h hF)
  clear hbl k2 k4 h hF hw3
  obtain ⟨B1, hB1⟩ : ∃ x, w.heap.size = x := ⟨_, rfl⟩
  rw [hB1] at hb1 c1 ⊢
  have HB1 := Lib.hid hB1
  clear hB1
  obtain ⟨B2, hB2⟩ : ∃ x, B1 + 1 = x := ⟨_, rfl⟩
  rw [hB2]
  obtain ⟨B4, hB4⟩ : ∃ x, B2 + 1 = x := ⟨_, rfl⟩
  rw [hB4]
  have HB := Lib.hid (And.intro hB2 hB4)
  clear hB2 hB4
  have HC := Lib.hid (Cel.start w3)
  go_cut [5, 6] from 8 to 13 (fun s5 s6 wx => ∃ B5 B6 X1 X2, s5 = .pointer (some ⟨B5, 0, none⟩) ∧ s6 = .pointer (some ⟨B6, 0, none⟩) ∧ NewC b w3 B5 B6 X1 X2 wx)
  case first =>
      refine wp_region_held_drew (S := (fun w' => w'.cell? ⟨B1, 0, none⟩ = some (.pointer (some ⟨b, 0, none⟩)))) (by kernel_rfl) (((HC.out.drew.1.cell (p := ⟨B1, 0, none⟩) hb1).trans c1)) (fun hHeld => ?_)
      have HC := Lib.hid HC.out.drew
      generalize w3.drew = w4 at HC hHeld ⊢
      refine take_lit (i := 0) (v := ?_) rfl (by kernel_rfl) (by kernel_rfl) (by kernel_rfl) (fun _ _ _ h => h) (by rfl) (fun wS hSw => ?_) hHeld ?_
      rotate_left
      · go_simp; try with_reducible rfl
      try simp only [Act.put, List.setIfInBounds_toArray, List.set_cons_zero, List.set_cons_succ]
      refine take_lit (i := 1) (v := ?_) rfl (by kernel_rfl) (by kernel_rfl) (by kernel_rfl) (fun _ _ _ h => h) (by rfl) (fun wS hSw => ?_) hHeld ?_
      rotate_left
      · go_simp; try with_reducible rfl
      try simp only [Act.put, List.setIfInBounds_toArray, List.set_cons_zero, List.set_cons_succ]
      refine take_lit (i := 3) (v := ?_) rfl (by kernel_rfl) (by kernel_rfl) (by kernel_rfl) (fun _ _ _ h => h) (by rfl) (fun wS hSw => ?_) hHeld ?_
      rotate_left
      · go_simp; try with_reducible rfl
      try simp only [Act.put, List.setIfInBounds_toArray, List.set_cons_zero, List.set_cons_succ]
      refine take_lit (i := 4) (v := ?_) rfl (by kernel_rfl) (by kernel_rfl) (by kernel_rfl) (fun _ _ _ h => h) (by rfl) (fun wS hSw => ?_) hHeld ?_
      rotate_left
      · go_simp; try with_reducible rfl
      try simp only [Act.put, List.setIfInBounds_toArray, List.set_cons_zero, List.set_cons_succ]
      refine wpAnyH_ready (rs := [2, 6, 7]) (by kernel_rfl) (by simp) (cons_lit (i := 2) rfl (fun K hK => ?_) (cons_lit (i := 6) rfl (fun K hK => ?_) (cons_lit (i := 7) rfl (fun K hK => ?_) AllReadyH.nil)))
      · skip
        go_simp
        refine (into_make _ _ _ _).mono ?_
        rintro e wz ⟨rfl, rfl⟩
        try go_simp
        have HN := Lib.hid (HC.out.alloc (.func (.func 82) #[.pointer (some ⟨b, 0, none⟩)] #[]) 133)
        refine hK.out _ _ ((HN.out.1.cell (p := ⟨B1, 0, none⟩) hb1).trans c1) (fun hHeld2 => ?_)
        clear hK K hHeld HC
        have HC := HN
        have hHeld := hHeld2
        clear HN hHeld2
        try simp only [Act.put, List.setIfInBounds_toArray, List.set_cons_zero, List.set_cons_succ]
        generalize hgw : w4.alloc _ = w5 at HC hHeld ⊢
        clear hgw
        generalize w4.heap.size = X1 at HC ⊢
        refine wpAnyH_ready (rs := [5, 6, 7]) (by kernel_rfl) (by simp) (cons_lit (i := 5) rfl (fun K hK => ?_) (cons_lit (i := 6) rfl (fun K hK => ?_) (cons_lit (i := 7) rfl (fun K hK => ?_) AllReadyH.nil)))
        · skip
          go_simp
          refine (into_make _ _ _ _).mono ?_
          rintro e wz ⟨rfl, rfl⟩
          try go_simp
          have HN := Lib.hid (HC.out.alloc (.func (.func 83) #[.pointer (some ⟨b, 0, none⟩)] #[]) 133)
          refine hK.out _ _ ((HN.out.1.cell (p := ⟨B1, 0, none⟩) hb1).trans c1) (fun hHeld2 => ?_)
          clear hK K hHeld HC
          have HC := HN
          have hHeld := hHeld2
          clear HN hHeld2
          try simp only [Act.put, List.setIfInBounds_toArray, List.set_cons_zero, List.set_cons_succ]
          generalize hgw : w5.alloc _ = w6 at HC hHeld ⊢
          clear hgw
          generalize w5.heap.size = X2 at HC ⊢
          refine wpAnyH_ready (rs := [6, 7]) (by kernel_rfl) (by simp) (cons_lit (i := 6) rfl (fun K hK => ?_) (cons_lit (i := 7) rfl (fun K hK => ?_) AllReadyH.nil))
          · skip
            go_simp
            have HN := Lib.hid (HC.out.alloc .nilFunc 131)
            refine hK.out _ _ ((HN.out.1.cell (p := ⟨B1, 0, none⟩) hb1).trans c1) (fun hHeld2 => ?_)
            clear hK K hHeld HC
            have HC := HN
            have hHeld := hHeld2
            clear HN hHeld2
            try simp only [Act.put, List.setIfInBounds_toArray, List.set_cons_zero, List.set_cons_succ]
            generalize hgw : w6.alloc _ = w7 at HC hHeld ⊢
            clear hgw
            generalize w6.heap.size = B5 at HC ⊢
            refine wpAnyH_ready (rs := [7]) (by kernel_rfl) (by simp) (cons_lit (i := 7) rfl (fun K hK => ?_) AllReadyH.nil)
            go_simp
            have HN := Lib.hid (HC.out.alloc .nilFunc 131)
            refine hK.out _ _ ((HN.out.1.cell (p := ⟨B1, 0, none⟩) hb1).trans c1) (fun hHeld2 => ?_)
            clear hK K hHeld HC
            have HC := HN
            have hHeld := hHeld2
            clear HN hHeld2
            try simp only [Act.put, List.setIfInBounds_toArray, List.set_cons_zero, List.set_cons_succ]
            generalize hgw : w7.alloc _ = w8 at HC hHeld ⊢
            clear hgw
            generalize w7.heap.size = B6 at HC ⊢
            refine wpAnyH_ready (rs := [8]) (by kernel_rfl) (by simp) (cons_lit (i := 8) rfl (fun K hK => ?_) AllReadyH.nil)
            obtain ⟨kc, kf⟩ := HC.out.at_ 1 rfl
            go_simp
            have HN := Lib.hid (HC.out.set 1 rfl (.func (.func 108) #[] #[.pointer (some ⟨X1, 0, none⟩)]))
            simp only [List.set_cons_zero, List.set_cons_succ] at HN
            clear kc kf
            refine hK.out _ _ ((HN.out.1.cell (p := ⟨B1, 0, none⟩) hb1).trans c1) (fun hHeld2 => ?_)
            clear hK K hHeld HC
            have HC := HN
            have hHeld := hHeld2
            clear HN hHeld2
            try simp only [Act.put, List.setIfInBounds_toArray, List.set_cons_zero, List.set_cons_succ]
            generalize hgw : w8.setCell _ _ = w9 at HC hHeld ⊢
            clear hgw
            refine wpAnyH_ready (rs := [9]) (by kernel_rfl) (by simp) (cons_lit (i := 9) rfl (fun K hK => ?_) AllReadyH.nil)
            obtain ⟨kc, kf⟩ := HC.out.at_ 0 rfl
            go_simp
            have HN := Lib.hid (HC.out.set 0 rfl (.func (.func 108) #[] #[.pointer (some ⟨X2, 0, none⟩)]))
            simp only [List.set_cons_zero] at HN
            clear kc kf
            refine hK.out _ _ ((HN.out.1.cell (p := ⟨B1, 0, none⟩) hb1).trans c1) (fun hHeld2 => ?_)
            clear hK K hHeld HC
            have HC := HN
            have hHeld := hHeld2
            clear HN hHeld2
            try simp only [Act.put, List.setIfInBounds_toArray, List.set_cons_zero, List.set_cons_succ]
            generalize hgw : w9.setCell _ _ = w10 at HC hHeld ⊢
            clear hgw
            refine wpAnyH_done (by kernel_rfl) ?_ _
            go_wp2_with fail
            go_meet
            exact ⟨B5, B6, X1, X2, rfl, rfl, HC.out.newC (by simp) (by simp) (by simp) (by simp)⟩
          · skip
            go_simp
            have HN := Lib.hid (HC.out.alloc .nilFunc 131)
            refine hK.out _ _ ((HN.out.1.cell (p := ⟨B1, 0, none⟩) hb1).trans c1) (fun hHeld2 => ?_)
            clear hK K hHeld HC
            have HC := HN
            have hHeld := hHeld2
            clear HN hHeld2
            try simp only [Act.put, List.setIfInBounds_toArray, List.set_cons_zero, List.set_cons_succ]
            generalize hgw : w6.alloc _ = w7 at HC hHeld ⊢
            clear hgw
            generalize w6.heap.size = B6 at HC ⊢
            refine wpAnyH_ready (rs := [6]) (by kernel_rfl) (by simp) (cons_lit (i := 6) rfl (fun K hK => ?_) AllReadyH.nil)
            go_simp
            have HN := Lib.hid (HC.out.alloc .nilFunc 131)
            refine hK.out _ _ ((HN.out.1.cell (p := ⟨B1, 0, none⟩) hb1).trans c1) (fun hHeld2 => ?_)
            clear hK K hHeld HC
            have HC := HN
            have hHeld := hHeld2
            clear HN hHeld2
            try simp only [Act.put, List.setIfInBounds_toArray, List.set_cons_zero, List.set_cons_succ]
            generalize hgw : w7.alloc _ = w8 at HC hHeld ⊢
            clear hgw
            generalize w7.heap.size = B5 at HC ⊢
            refine wpAnyH_ready (rs := [8]) (by kernel_rfl) (by simp) (cons_lit (i := 8) rfl (fun K hK => ?_) AllReadyH.nil)
            obtain ⟨kc, kf⟩ := HC.out.at_ 0 rfl
            go_simp
            have HN := Lib.hid (HC.out.set 0 rfl (.func (.func 108) #[] #[.pointer (some ⟨X1, 0, none⟩)]))
            simp only [List.set_cons_zero] at HN
            clear kc kf
            refine hK.out _ _ ((HN.out.1.cell (p := ⟨B1, 0, none⟩) hb1).trans c1) (fun hHeld2 => ?_)
            clear hK K hHeld HC
            have HC := HN
            have hHeld := hHeld2
            clear HN hHeld2
            try simp only [Act.put, List.setIfInBounds_toArray, List.set_cons_zero, List.set_cons_succ]
            generalize hgw : w8.setCell _ _ = w9 at HC hHeld ⊢
            clear hgw
            refine wpAnyH_ready (rs := [9]) (by kernel_rfl) (by simp) (cons_lit (i := 9) rfl (fun K hK => ?_) AllReadyH.nil)
            obtain ⟨kc, kf⟩ := HC.out.at_ 1 rfl
            go_simp
            have HN := Lib.hid (HC.out.set 1 rfl (.func (.func 108) #[] #[.pointer (some ⟨X2, 0, none⟩)]))
            simp only [List.set_cons_zero, List.set_cons_succ] at HN
            clear kc kf
            refine hK.out _ _ ((HN.out.1.cell (p := ⟨B1, 0, none⟩) hb1).trans c1) (fun hHeld2 => ?_)
            clear hK K hHeld HC
            have HC := HN
            have hHeld := hHeld2
            clear HN hHeld2
            try simp only [Act.put, List.setIfInBounds_toArray, List.set_cons_zero, List.set_cons_succ]
            generalize hgw : w9.setCell _ _ = w10 at HC hHeld ⊢
            clear hgw
            refine wpAnyH_done (by kernel_rfl) ?_ _
            go_wp2_with fail
            go_meet
            exact ⟨B5, B6, X1, X2, rfl, rfl, HC.out.newC (by simp) (by simp) (by simp) (by simp)⟩
        · skip
          go_simp
          have HN := Lib.hid (HC.out.alloc .nilFunc 131)
          refine hK.out _ _ ((HN.out.1.cell (p := ⟨B1, 0, none⟩) hb1).trans c1) (fun hHeld2 => ?_)
          clear hK K hHeld HC
          have HC := HN
          have hHeld := hHeld2
          clear HN hHeld2
          try simp only [Act.put, List.setIfInBounds_toArray, List.set_cons_zero, List.set_cons_succ]
          generalize hgw : w5.alloc _ = w6 at HC hHeld ⊢
          clear hgw
          generalize w5.heap.size = B5 at HC ⊢
          refine wpAnyH_ready (rs := [5, 7]) (by kernel_rfl) (by simp) (cons_lit (i := 5) rfl (fun K hK => ?_) (cons_lit (i := 7) rfl (fun K hK => ?_) AllReadyH.nil))
          · skip
            go_simp
            refine (into_make _ _ _ _).mono ?_
            rintro e wz ⟨rfl, rfl⟩
            try go_simp
            have HN := Lib.hid (HC.out.alloc (.func (.func 83) #[.pointer (some ⟨b, 0, none⟩)] #[]) 133)
            refine hK.out _ _ ((HN.out.1.cell (p := ⟨B1, 0, none⟩) hb1).trans c1) (fun hHeld2 => ?_)
            clear hK K hHeld HC
            have HC := HN
            have hHeld := hHeld2
            clear HN hHeld2
            try simp only [Act.put, List.setIfInBounds_toArray, List.set_cons_zero, List.set_cons_succ]
            generalize hgw : w6.alloc _ = w7 at HC hHeld ⊢
            clear hgw
            generalize w6.heap.size = X2 at HC ⊢
            refine wpAnyH_ready (rs := [7]) (by kernel_rfl) (by simp) (cons_lit (i := 7) rfl (fun K hK => ?_) AllReadyH.nil)
            go_simp
            have HN := Lib.hid (HC.out.alloc .nilFunc 131)
            refine hK.out _ _ ((HN.out.1.cell (p := ⟨B1, 0, none⟩) hb1).trans c1) (fun hHeld2 => ?_)
            clear hK K hHeld HC
            have HC := HN
            have hHeld := hHeld2
            clear HN hHeld2
            try simp only [Act.put, List.setIfInBounds_toArray, List.set_cons_zero, List.set_cons_succ]
            generalize hgw : w7.alloc _ = w8 at HC hHeld ⊢
            clear hgw
            generalize w7.heap.size = B6 at HC ⊢
            refine wpAnyH_ready (rs := [8]) (by kernel_rfl) (by simp) (cons_lit (i := 8) rfl (fun K hK => ?_) AllReadyH.nil)
            obtain ⟨kc, kf⟩ := HC.out.at_ 2 rfl
            go_simp
            have HN := Lib.hid (HC.out.set 2 rfl (.func (.func 108) #[] #[.pointer (some ⟨X1, 0, none⟩)]))
            simp only [List.set_cons_zero, List.set_cons_succ] at HN
            clear kc kf
            refine hK.out _ _ ((HN.out.1.cell (p := ⟨B1, 0, none⟩) hb1).trans c1) (fun hHeld2 => ?_)
            clear hK K hHeld HC
            have HC := HN
            have hHeld := hHeld2
            clear HN hHeld2
            try simp only [Act.put, List.setIfInBounds_toArray, List.set_cons_zero, List.set_cons_succ]
            generalize hgw : w8.setCell _ _ = w9 at HC hHeld ⊢
            clear hgw
            refine wpAnyH_ready (rs := [9]) (by kernel_rfl) (by simp) (cons_lit (i := 9) rfl (fun K hK => ?_) AllReadyH.nil)
            obtain ⟨kc, kf⟩ := HC.out.at_ 0 rfl
            go_simp
            have HN := Lib.hid (HC.out.set 0 rfl (.func (.func 108) #[] #[.pointer (some ⟨X2, 0, none⟩)]))
            simp only [List.set_cons_zero] at HN
            clear kc kf
            refine hK.out _ _ ((HN.out.1.cell (p := ⟨B1, 0, none⟩) hb1).trans c1) (fun hHeld2 => ?_)
            clear hK K hHeld HC
            have HC := HN
            have hHeld := hHeld2
            clear HN hHeld2
            try simp only [Act.put, List.setIfInBounds_toArray, List.set_cons_zero, List.set_cons_succ]
            generalize hgw : w9.setCell _ _ = w10 at HC hHeld ⊢
            clear hgw
            refine wpAnyH_done (by kernel_rfl) ?_ _
            go_wp2_with fail
            go_meet
            exact ⟨B5, B6, X1, X2, rfl, rfl, HC.out.newC (by simp) (by simp) (by simp) (by simp)⟩
          · skip
            go_simp
            have HN := Lib.hid (HC.out.alloc .nilFunc 131)
            refine hK.out _ _ ((HN.out.1.cell (p := ⟨B1, 0, none⟩) hb1).trans c1) (fun hHeld2 => ?_)
            clear hK K hHeld HC
            have HC := HN
            have hHeld := hHeld2
            clear HN hHeld2
            try simp only [Act.put, List.setIfInBounds_toArray, List.set_cons_zero, List.set_cons_succ]
            generalize hgw : w6.alloc _ = w7 at HC hHeld ⊢
            clear hgw
            generalize w6.heap.size = B6 at HC ⊢
            refine wpAnyH_ready (rs := [5]) (by kernel_rfl) (by simp) (cons_lit (i := 5) rfl (fun K hK => ?_) AllReadyH.nil)
            go_simp
            refine (into_make _ _ _ _).mono ?_
            rintro e wz ⟨rfl, rfl⟩
            try go_simp
            have HN := Lib.hid (HC.out.alloc (.func (.func 83) #[.pointer (some ⟨b, 0, none⟩)] #[]) 133)
            refine hK.out _ _ ((HN.out.1.cell (p := ⟨B1, 0, none⟩) hb1).trans c1) (fun hHeld2 => ?_)
            clear hK K hHeld HC
            have HC := HN
            have hHeld := hHeld2
            clear HN hHeld2
            try simp only [Act.put, List.setIfInBounds_toArray, List.set_cons_zero, List.set_cons_succ]
            generalize hgw : w7.alloc _ = w8 at HC hHeld ⊢
            clear hgw
            generalize w7.heap.size = X2 at HC ⊢
            refine wpAnyH_ready (rs := [8]) (by kernel_rfl) (by simp) (cons_lit (i := 8) rfl (fun K hK => ?_) AllReadyH.nil)
            obtain ⟨kc, kf⟩ := HC.out.at_ 2 rfl
            go_simp
            have HN := Lib.hid (HC.out.set 2 rfl (.func (.func 108) #[] #[.pointer (some ⟨X1, 0, none⟩)]))
            simp only [List.set_cons_zero, List.set_cons_succ] at HN
            clear kc kf
            refine hK.out _ _ ((HN.out.1.cell (p := ⟨B1, 0, none⟩) hb1).trans c1) (fun hHeld2 => ?_)
            clear hK K hHeld HC
            have HC := HN
            have hHeld := hHeld2
            clear HN hHeld2
            try simp only [Act.put, List.setIfInBounds_toArray, List.set_cons_zero, List.set_cons_succ]
            generalize hgw : w8.setCell _ _ = w9 at HC hHeld ⊢
            clear hgw
            refine wpAnyH_ready (rs := [9]) (by kernel_rfl) (by simp) (cons_lit (i := 9) rfl (fun K hK => ?_) AllReadyH.nil)
            obtain ⟨kc, kf⟩ := HC.out.at_ 1 rfl
            go_simp
            have HN := Lib.hid (HC.out.set 1 rfl (.func (.func 108) #[] #[.pointer (some ⟨X2, 0, none⟩)]))
            simp only [List.set_cons_zero, List.set_cons_succ] at HN
            clear kc kf
            refine hK.out _ _ ((HN.out.1.cell (p := ⟨B1, 0, none⟩) hb1).trans c1) (fun hHeld2 => ?_)
            clear hK K hHeld HC
            have HC := HN
            have hHeld := hHeld2
            clear HN hHeld2
            try simp only [Act.put, List.setIfInBounds_toArray, List.set_cons_zero, List.set_cons_succ]
            generalize hgw : w9.setCell _ _ = w10 at HC hHeld ⊢
            clear hgw
            refine wpAnyH_done (by kernel_rfl) ?_ _
            go_wp2_with fail
            go_meet
            exact ⟨B5, B6, X1, X2, rfl, rfl, HC.out.newC (by simp) (by simp) (by simp) (by simp)⟩
        · skip
          go_simp
          have HN := Lib.hid (HC.out.alloc .nilFunc 131)
          refine hK.out _ _ ((HN.out.1.cell (p := ⟨B1, 0, none⟩) hb1).trans c1) (fun hHeld2 => ?_)
          clear hK K hHeld HC
          have HC := HN
          have hHeld := hHeld2
          clear HN hHeld2
          try simp only [Act.put, List.setIfInBounds_toArray, List.set_cons_zero, List.set_cons_succ]
          generalize hgw : w5.alloc _ = w6 at HC hHeld ⊢
          clear hgw
          generalize w5.heap.size = B6 at HC ⊢
          refine wpAnyH_ready (rs := [5, 6]) (by kernel_rfl) (by simp) (cons_lit (i := 5) rfl (fun K hK => ?_) (cons_lit (i := 6) rfl (fun K hK => ?_) AllReadyH.nil))
          · skip
            go_simp
            refine (into_make _ _ _ _).mono ?_
            rintro e wz ⟨rfl, rfl⟩
            try go_simp
            have HN := Lib.hid (HC.out.alloc (.func (.func 83) #[.pointer (some ⟨b, 0, none⟩)] #[]) 133)
            refine hK.out _ _ ((HN.out.1.cell (p := ⟨B1, 0, none⟩) hb1).trans c1) (fun hHeld2 => ?_)
            clear hK K hHeld HC
            have HC := HN
            have hHeld := hHeld2
            clear HN hHeld2
            try simp only [Act.put, List.setIfInBounds_toArray, List.set_cons_zero, List.set_cons_succ]
            generalize hgw : w6.alloc _ = w7 at HC hHeld ⊢
            clear hgw
            generalize w6.heap.size = X2 at HC ⊢
            refine wpAnyH_ready (rs := [6]) (by kernel_rfl) (by simp) (cons_lit (i := 6) rfl (fun K hK => ?_) AllReadyH.nil)
            go_simp
            have HN := Lib.hid (HC.out.alloc .nilFunc 131)
            refine hK.out _ _ ((HN.out.1.cell (p := ⟨B1, 0, none⟩) hb1).trans c1) (fun hHeld2 => ?_)
            clear hK K hHeld HC
            have HC := HN
            have hHeld := hHeld2
            clear HN hHeld2
            try simp only [Act.put, List.setIfInBounds_toArray, List.set_cons_zero, List.set_cons_succ]
            generalize hgw : w7.alloc _ = w8 at HC hHeld ⊢
            clear hgw
            generalize w7.heap.size = B5 at HC ⊢
            refine wpAnyH_ready (rs := [8]) (by kernel_rfl) (by simp) (cons_lit (i := 8) rfl (fun K hK => ?_) AllReadyH.nil)
            obtain ⟨kc, kf⟩ := HC.out.at_ 0 rfl
            go_simp
            have HN := Lib.hid (HC.out.set 0 rfl (.func (.func 108) #[] #[.pointer (some ⟨X1, 0, none⟩)]))
            simp only [List.set_cons_zero] at HN
            clear kc kf
            refine hK.out _ _ ((HN.out.1.cell (p := ⟨B1, 0, none⟩) hb1).trans c1) (fun hHeld2 => ?_)
            clear hK K hHeld HC
            have HC := HN
            have hHeld := hHeld2
            clear HN hHeld2
            try simp only [Act.put, List.setIfInBounds_toArray, List.set_cons_zero, List.set_cons_succ]
            generalize hgw : w8.setCell _ _ = w9 at HC hHeld ⊢
            clear hgw
            refine wpAnyH_ready (rs := [9]) (by kernel_rfl) (by simp) (cons_lit (i := 9) rfl (fun K hK => ?_) AllReadyH.nil)
            obtain ⟨kc, kf⟩ := HC.out.at_ 2 rfl
            go_simp
            have HN := Lib.hid (HC.out.set 2 rfl (.func (.func 108) #[] #[.pointer (some ⟨X2, 0, none⟩)]))
            simp only [List.set_cons_zero, List.set_cons_succ] at HN
            clear kc kf
            refine hK.out _ _ ((HN.out.1.cell (p := ⟨B1, 0, none⟩) hb1).trans c1) (fun hHeld2 => ?_)
            clear hK K hHeld HC
            have HC := HN
            have hHeld := hHeld2
            clear HN hHeld2
            try simp only [Act.put, List.setIfInBounds_toArray, List.set_cons_zero, List.set_cons_succ]
            generalize hgw : w9.setCell _ _ = w10 at HC hHeld ⊢
            clear hgw
            refine wpAnyH_done (by kernel_rfl) ?_ _
            go_wp2_with fail
            go_meet
            exact ⟨B5, B6, X1, X2, rfl, rfl, HC.out.newC (by simp) (by simp) (by simp) (by simp)⟩
          · skip
            go_simp
            have HN := Lib.hid (HC.out.alloc .nilFunc 131)
            refine hK.out _ _ ((HN.out.1.cell (p := ⟨B1, 0, none⟩) hb1).trans c1) (fun hHeld2 => ?_)
            clear hK K hHeld HC
            have HC := HN
            have hHeld := hHeld2
            clear HN hHeld2
            try simp only [Act.put, List.setIfInBounds_toArray, List.set_cons_zero, List.set_cons_succ]
            generalize hgw : w6.alloc _ = w7 at HC hHeld ⊢
            clear hgw
            generalize w6.heap.size = B5 at HC ⊢
            refine wpAnyH_ready (rs := [5]) (by kernel_rfl) (by simp) (cons_lit (i := 5) rfl (fun K hK => ?_) AllReadyH.nil)
            go_simp
            refine (into_make _ _ _ _).mono ?_
            rintro e wz ⟨rfl, rfl⟩
            try go_simp
            have HN := Lib.hid (HC.out.alloc (.func (.func 83) #[.pointer (some ⟨b, 0, none⟩)] #[]) 133)
            refine hK.out _ _ ((HN.out.1.cell (p := ⟨B1, 0, none⟩) hb1).trans c1) (fun hHeld2 => ?_)
            clear hK K hHeld HC
            have HC := HN
            have hHeld := hHeld2
            clear HN hHeld2
            try simp only [Act.put, List.setIfInBounds_toArray, List.set_cons_zero, List.set_cons_succ]
            generalize hgw : w7.alloc _ = w8 at HC hHeld ⊢
            clear hgw
            generalize w7.heap.size = X2 at HC ⊢
            refine wpAnyH_ready (rs := [8]) (by kernel_rfl) (by simp) (cons_lit (i := 8) rfl (fun K hK => ?_) AllReadyH.nil)
            obtain ⟨kc, kf⟩ := HC.out.at_ 1 rfl
            go_simp
            have HN := Lib.hid (HC.out.set 1 rfl (.func (.func 108) #[] #[.pointer (some ⟨X1, 0, none⟩)]))
            simp only [List.set_cons_zero, List.set_cons_succ] at HN
            clear kc kf
            refine hK.out _ _ ((HN.out.1.cell (p := ⟨B1, 0, none⟩) hb1).trans c1) (fun hHeld2 => ?_)
            clear hK K hHeld HC
            have HC := HN
            have hHeld := hHeld2
            clear HN hHeld2
            try simp only [Act.put, List.setIfInBounds_toArray, List.set_cons_zero, List.set_cons_succ]
            generalize hgw : w8.setCell _ _ = w9 at HC hHeld ⊢
            clear hgw
            refine wpAnyH_ready (rs := [9]) (by kernel_rfl) (by simp) (cons_lit (i := 9) rfl (fun K hK => ?_) AllReadyH.nil)
            obtain ⟨kc, kf⟩ := HC.out.at_ 2 rfl
            go_simp
            have HN := Lib.hid (HC.out.set 2 rfl (.func (.func 108) #[] #[.pointer (some ⟨X2, 0, none⟩)]))
            simp only [List.set_cons_zero, List.set_cons_succ] at HN
            clear kc kf
            refine hK.out _ _ ((HN.out.1.cell (p := ⟨B1, 0, none⟩) hb1).trans c1) (fun hHeld2 => ?_)
            clear hK K hHeld HC
            have HC := HN
            have hHeld := hHeld2
            clear HN hHeld2
            try simp only [Act.put, List.setIfInBounds_toArray, List.set_cons_zero, List.set_cons_succ]
            generalize hgw : w9.setCell _ _ = w10 at HC hHeld ⊢
            clear hgw
            refine wpAnyH_done (by kernel_rfl) ?_ _
            go_wp2_with fail
            go_meet
            exact ⟨B5, B6, X1, X2, rfl, rfl, HC.out.newC (by simp) (by simp) (by simp) (by simp)⟩
      · skip
        go_simp
        have HN := Lib.hid (HC.out.alloc .nilFunc 131)
        refine hK.out _ _ ((HN.out.1.cell (p := ⟨B1, 0, none⟩) hb1).trans c1) (fun hHeld2 => ?_)
        clear hK K hHeld HC
        have HC := HN
        have hHeld := hHeld2
        clear HN hHeld2
        try simp only [Act.put, List.setIfInBounds_toArray, List.set_cons_zero, List.set_cons_succ]
        generalize hgw : w4.alloc _ = w5 at HC hHeld ⊢
        clear hgw
        generalize w4.heap.size = B5 at HC ⊢
        refine wpAnyH_ready (rs := [2, 7]) (by kernel_rfl) (by simp) (cons_lit (i := 2) rfl (fun K hK => ?_) (cons_lit (i := 7) rfl (fun K hK => ?_) AllReadyH.nil))
        · skip
          go_simp
          refine (into_make _ _ _ _).mono ?_
          rintro e wz ⟨rfl, rfl⟩
          try go_simp
          have HN := Lib.hid (HC.out.alloc (.func (.func 82) #[.pointer (some ⟨b, 0, none⟩)] #[]) 133)
          refine hK.out _ _ ((HN.out.1.cell (p := ⟨B1, 0, none⟩) hb1).trans c1) (fun hHeld2 => ?_)
          clear hK K hHeld HC
          have HC := HN
          have hHeld := hHeld2
          clear HN hHeld2
          try simp only [Act.put, List.setIfInBounds_toArray, List.set_cons_zero, List.set_cons_succ]
          generalize hgw : w5.alloc _ = w6 at HC hHeld ⊢
          clear hgw
          generalize w5.heap.size = X1 at HC ⊢
          refine wpAnyH_ready (rs := [5, 7]) (by kernel_rfl) (by simp) (cons_lit (i := 5) rfl (fun K hK => ?_) (cons_lit (i := 7) rfl (fun K hK => ?_) AllReadyH.nil))
          · skip
            go_simp
            refine (into_make _ _ _ _).mono ?_
            rintro e wz ⟨rfl, rfl⟩
            try go_simp
            have HN := Lib.hid (HC.out.alloc (.func (.func 83) #[.pointer (some ⟨b, 0, none⟩)] #[]) 133)
            refine hK.out _ _ ((HN.out.1.cell (p := ⟨B1, 0, none⟩) hb1).trans c1) (fun hHeld2 => ?_)
            clear hK K hHeld HC
            have HC := HN
            have hHeld := hHeld2
            clear HN hHeld2
            try simp only [Act.put, List.setIfInBounds_toArray, List.set_cons_zero, List.set_cons_succ]
            generalize hgw : w6.alloc _ = w7 at HC hHeld ⊢
            clear hgw
            generalize w6.heap.size = X2 at HC ⊢
            refine wpAnyH_ready (rs := [7]) (by kernel_rfl) (by simp) (cons_lit (i := 7) rfl (fun K hK => ?_) AllReadyH.nil)
            go_simp
            have HN := Lib.hid (HC.out.alloc .nilFunc 131)
            refine hK.out _ _ ((HN.out.1.cell (p := ⟨B1, 0, none⟩) hb1).trans c1) (fun hHeld2 => ?_)
            clear hK K hHeld HC
            have HC := HN
            have hHeld := hHeld2
            clear HN hHeld2
            try simp only [Act.put, List.setIfInBounds_toArray, List.set_cons_zero, List.set_cons_succ]
            generalize hgw : w7.alloc _ = w8 at HC hHeld ⊢
            clear hgw
            generalize w7.heap.size = B6 at HC ⊢
            refine wpAnyH_ready (rs := [8]) (by kernel_rfl) (by simp) (cons_lit (i := 8) rfl (fun K hK => ?_) AllReadyH.nil)
            obtain ⟨kc, kf⟩ := HC.out.at_ 3 rfl
            go_simp
            have HN := Lib.hid (HC.out.set 3 rfl (.func (.func 108) #[] #[.pointer (some ⟨X1, 0, none⟩)]))
            simp only [List.set_cons_zero, List.set_cons_succ] at HN
            clear kc kf
            refine hK.out _ _ ((HN.out.1.cell (p := ⟨B1, 0, none⟩) hb1).trans c1) (fun hHeld2 => ?_)
            clear hK K hHeld HC
            have HC := HN
            have hHeld := hHeld2
            clear HN hHeld2
            try simp only [Act.put, List.setIfInBounds_toArray, List.set_cons_zero, List.set_cons_succ]
            generalize hgw : w8.setCell _ _ = w9 at HC hHeld ⊢
            clear hgw
            refine wpAnyH_ready (rs := [9]) (by kernel_rfl) (by simp) (cons_lit (i := 9) rfl (fun K hK => ?_) AllReadyH.nil)
            obtain ⟨kc, kf⟩ := HC.out.at_ 0 rfl
            go_simp
            have HN := Lib.hid (HC.out.set 0 rfl (.func (.func 108) #[] #[.pointer (some ⟨X2, 0, none⟩)]))
            simp only [List.set_cons_zero] at HN
            clear kc kf
            refine hK.out _ _ ((HN.out.1.cell (p := ⟨B1, 0, none⟩) hb1).trans c1) (fun hHeld2 => ?_)
            clear hK K hHeld HC
            have HC := HN
            have hHeld := hHeld2
            clear HN hHeld2
            try simp only [Act.put, List.setIfInBounds_toArray, List.set_cons_zero, List.set_cons_succ]
            generalize hgw : w9.setCell _ _ = w10 at HC hHeld ⊢
            clear hgw
            refine wpAnyH_done (by kernel_rfl) ?_ _
            go_wp2_with fail
            go_meet
            exact ⟨B5, B6, X1, X2, rfl, rfl, HC.out.newC (by simp) (by simp) (by simp) (by simp)⟩
          · skip
            go_simp
            have HN := Lib.hid (HC.out.alloc .nilFunc 131)
            refine hK.out _ _ ((HN.out.1.cell (p := ⟨B1, 0, none⟩) hb1).trans c1) (fun hHeld2 => ?_)
            clear hK K hHeld HC
            have HC := HN
            have hHeld := hHeld2
            clear HN hHeld2
            try simp only [Act.put, List.setIfInBounds_toArray, List.set_cons_zero, List.set_cons_succ]
            generalize hgw : w6.alloc _ = w7 at HC hHeld ⊢
            clear hgw
            generalize w6.heap.size = B6 at HC ⊢
            refine wpAnyH_ready (rs := [5]) (by kernel_rfl) (by simp) (cons_lit (i := 5) rfl (fun K hK => ?_) AllReadyH.nil)
            go_simp
            refine (into_make _ _ _ _).mono ?_
            rintro e wz ⟨rfl, rfl⟩
            try go_simp
            have HN := Lib.hid (HC.out.alloc (.func (.func 83) #[.pointer (some ⟨b, 0, none⟩)] #[]) 133)
            refine hK.out _ _ ((HN.out.1.cell (p := ⟨B1, 0, none⟩) hb1).trans c1) (fun hHeld2 => ?_)
            clear hK K hHeld HC
            have HC := HN
            have hHeld := hHeld2
            clear HN hHeld2
            try simp only [Act.put, List.setIfInBounds_toArray, List.set_cons_zero, List.set_cons_succ]
            generalize hgw : w7.alloc _ = w8 at HC hHeld ⊢
            clear hgw
            generalize w7.heap.size = X2 at HC ⊢
            refine wpAnyH_ready (rs := [8]) (by kernel_rfl) (by simp) (cons_lit (i := 8) rfl (fun K hK => ?_) AllReadyH.nil)
            obtain ⟨kc, kf⟩ := HC.out.at_ 3 rfl
            go_simp
            have HN := Lib.hid (HC.out.set 3 rfl (.func (.func 108) #[] #[.pointer (some ⟨X1, 0, none⟩)]))
            simp only [List.set_cons_zero, List.set_cons_succ] at HN
            clear kc kf
            refine hK.out _ _ ((HN.out.1.cell (p := ⟨B1, 0, none⟩) hb1).trans c1) (fun hHeld2 => ?_)
            clear hK K hHeld HC
            have HC := HN
            have hHeld := hHeld2
            clear HN hHeld2
            try simp only [Act.put, List.setIfInBounds_toArray, List.set_cons_zero, List.set_cons_succ]
            generalize hgw : w8.setCell _ _ = w9 at HC hHeld ⊢
            clear hgw
            refine wpAnyH_ready (rs := [9]) (by kernel_rfl) (by simp) (cons_lit (i := 9) rfl (fun K hK => ?_) AllReadyH.nil)
            obtain ⟨kc, kf⟩ := HC.out.at_ 1 rfl
            go_simp
            have HN := Lib.hid (HC.out.set 1 rfl (.func (.func 108) #[] #[.pointer (some ⟨X2, 0, none⟩)]))
            simp only [List.set_cons_zero, List.set_cons_succ] at HN
            clear kc kf
            refine hK.out _ _ ((HN.out.1.cell (p := ⟨B1, 0, none⟩) hb1).trans c1) (fun hHeld2 => ?_)
            clear hK K hHeld HC
            have HC := HN
            have hHeld := hHeld2
            clear HN hHeld2
            try simp only [Act.put, List.setIfInBounds_toArray, List.set_cons_zero, List.set_cons_succ]
            generalize hgw : w9.setCell _ _ = w10 at HC hHeld ⊢
            clear hgw
            refine wpAnyH_done (by kernel_rfl) ?_ _
            go_wp2_with fail
            go_meet
            exact ⟨B5, B6, X1, X2, rfl, rfl, HC.out.newC (by simp) (by simp) (by simp) (by simp)⟩
        · skip
          go_simp
          have HN := Lib.hid (HC.out.alloc .nilFunc 131)
          refine hK.out _ _ ((HN.out.1.cell (p := ⟨B1, 0, none⟩) hb1).trans c1) (fun hHeld2 => ?_)
          clear hK K hHeld HC
          have HC := HN
          have hHeld := hHeld2
          clear HN hHeld2
          try simp only [Act.put, List.setIfInBounds_toArray, List.set_cons_zero, List.set_cons_succ]
          generalize hgw : w5.alloc _ = w6 at HC hHeld ⊢
          clear hgw
          generalize w5.heap.size = B6 at HC ⊢
          refine wpAnyH_ready (rs := [2]) (by kernel_rfl) (by simp) (cons_lit (i := 2) rfl (fun K hK => ?_) AllReadyH.nil)
          go_simp
          refine (into_make _ _ _ _).mono ?_
          rintro e wz ⟨rfl, rfl⟩
          try go_simp
          have HN := Lib.hid (HC.out.alloc (.func (.func 82) #[.pointer (some ⟨b, 0, none⟩)] #[]) 133)
          refine hK.out _ _ ((HN.out.1.cell (p := ⟨B1, 0, none⟩) hb1).trans c1) (fun hHeld2 => ?_)
          clear hK K hHeld HC
          have HC := HN
          have hHeld := hHeld2
          clear HN hHeld2
          try simp only [Act.put, List.setIfInBounds_toArray, List.set_cons_zero, List.set_cons_succ]
          generalize hgw : w6.alloc _ = w7 at HC hHeld ⊢
          clear hgw
          generalize w6.heap.size = X1 at HC ⊢
          refine wpAnyH_ready (rs := [5]) (by kernel_rfl) (by simp) (cons_lit (i := 5) rfl (fun K hK => ?_) AllReadyH.nil)
          go_simp
          refine (into_make _ _ _ _).mono ?_
          rintro e wz ⟨rfl, rfl⟩
          try go_simp
          have HN := Lib.hid (HC.out.alloc (.func (.func 83) #[.pointer (some ⟨b, 0, none⟩)] #[]) 133)
          refine hK.out _ _ ((HN.out.1.cell (p := ⟨B1, 0, none⟩) hb1).trans c1) (fun hHeld2 => ?_)
          clear hK K hHeld HC
          have HC := HN
          have hHeld := hHeld2
          clear HN hHeld2
          try simp only [Act.put, List.setIfInBounds_toArray, List.set_cons_zero, List.set_cons_succ]
          generalize hgw : w7.alloc _ = w8 at HC hHeld ⊢
          clear hgw
          generalize w7.heap.size = X2 at HC ⊢
          refine wpAnyH_ready (rs := [8]) (by kernel_rfl) (by simp) (cons_lit (i := 8) rfl (fun K hK => ?_) AllReadyH.nil)
          obtain ⟨kc, kf⟩ := HC.out.at_ 3 rfl
          go_simp
          have HN := Lib.hid (HC.out.set 3 rfl (.func (.func 108) #[] #[.pointer (some ⟨X1, 0, none⟩)]))
          simp only [List.set_cons_zero, List.set_cons_succ] at HN
          clear kc kf
          refine hK.out _ _ ((HN.out.1.cell (p := ⟨B1, 0, none⟩) hb1).trans c1) (fun hHeld2 => ?_)
          clear hK K hHeld HC
          have HC := HN
          have hHeld := hHeld2
          clear HN hHeld2
          try simp only [Act.put, List.setIfInBounds_toArray, List.set_cons_zero, List.set_cons_succ]
          generalize hgw : w8.setCell _ _ = w9 at HC hHeld ⊢
          clear hgw
          refine wpAnyH_ready (rs := [9]) (by kernel_rfl) (by simp) (cons_lit (i := 9) rfl (fun K hK => ?_) AllReadyH.nil)
          obtain ⟨kc, kf⟩ := HC.out.at_ 2 rfl
          go_simp
          have HN := Lib.hid (HC.out.set 2 rfl (.func (.func 108) #[] #[.pointer (some ⟨X2, 0, none⟩)]))
          simp only [List.set_cons_zero, List.set_cons_succ] at HN
          clear kc kf
          refine hK.out _ _ ((HN.out.1.cell (p := ⟨B1, 0, none⟩) hb1).trans c1) (fun hHeld2 => ?_)
          clear hK K hHeld HC
          have HC := HN
          have hHeld := hHeld2
          clear HN hHeld2
          try simp only [Act.put, List.setIfInBounds_toArray, List.set_cons_zero, List.set_cons_succ]
          generalize hgw : w9.setCell _ _ = w10 at HC hHeld ⊢
          clear hgw
          refine wpAnyH_done (by kernel_rfl) ?_ _
          go_wp2_with fail
          go_meet
          exact ⟨B5, B6, X1, X2, rfl, rfl, HC.out.newC (by simp) (by simp) (by simp) (by simp)⟩
      · skip
        go_simp
        have HN := Lib.hid (HC.out.alloc .nilFunc 131)
        refine hK.out _ _ ((HN.out.1.cell (p := ⟨B1, 0, none⟩) hb1).trans c1) (fun hHeld2 => ?_)
        clear hK K hHeld HC
        have HC := HN
        have hHeld := hHeld2
        clear HN hHeld2
        try simp only [Act.put, List.setIfInBounds_toArray, List.set_cons_zero, List.set_cons_succ]
        generalize hgw : w4.alloc _ = w5 at HC hHeld ⊢
        clear hgw
        generalize w4.heap.size = B6 at HC ⊢
        refine wpAnyH_ready (rs := [2, 6]) (by kernel_rfl) (by simp) (cons_lit (i := 2) rfl (fun K hK => ?_) (cons_lit (i := 6) rfl (fun K hK => ?_) AllReadyH.nil))
        · skip
          go_simp
          refine (into_make _ _ _ _).mono ?_
          rintro e wz ⟨rfl, rfl⟩
          try go_simp
          have HN := Lib.hid (HC.out.alloc (.func (.func 82) #[.pointer (some ⟨b, 0, none⟩)] #[]) 133)
          refine hK.out _ _ ((HN.out.1.cell (p := ⟨B1, 0, none⟩) hb1).trans c1) (fun hHeld2 => ?_)
          clear hK K hHeld HC
          have HC := HN
          have hHeld := hHeld2
          clear HN hHeld2
          try simp only [Act.put, List.setIfInBounds_toArray, List.set_cons_zero, List.set_cons_succ]
          generalize hgw : w5.alloc _ = w6 at HC hHeld ⊢
          clear hgw
          generalize w5.heap.size = X1 at HC ⊢
          refine wpAnyH_ready (rs := [5, 6]) (by kernel_rfl) (by simp) (cons_lit (i := 5) rfl (fun K hK => ?_) (cons_lit (i := 6) rfl (fun K hK => ?_) AllReadyH.nil))
          · skip
            go_simp
            refine (into_make _ _ _ _).mono ?_
            rintro e wz ⟨rfl, rfl⟩
            try go_simp
            have HN := Lib.hid (HC.out.alloc (.func (.func 83) #[.pointer (some ⟨b, 0, none⟩)] #[]) 133)
            refine hK.out _ _ ((HN.out.1.cell (p := ⟨B1, 0, none⟩) hb1).trans c1) (fun hHeld2 => ?_)
            clear hK K hHeld HC
            have HC := HN
            have hHeld := hHeld2
            clear HN hHeld2
            try simp only [Act.put, List.setIfInBounds_toArray, List.set_cons_zero, List.set_cons_succ]
            generalize hgw : w6.alloc _ = w7 at HC hHeld ⊢
            clear hgw
            generalize w6.heap.size = X2 at HC ⊢
            refine wpAnyH_ready (rs := [6]) (by kernel_rfl) (by simp) (cons_lit (i := 6) rfl (fun K hK => ?_) AllReadyH.nil)
            go_simp
            have HN := Lib.hid (HC.out.alloc .nilFunc 131)
            refine hK.out _ _ ((HN.out.1.cell (p := ⟨B1, 0, none⟩) hb1).trans c1) (fun hHeld2 => ?_)
            clear hK K hHeld HC
            have HC := HN
            have hHeld := hHeld2
            clear HN hHeld2
            try simp only [Act.put, List.setIfInBounds_toArray, List.set_cons_zero, List.set_cons_succ]
            generalize hgw : w7.alloc _ = w8 at HC hHeld ⊢
            clear hgw
            generalize w7.heap.size = B5 at HC ⊢
            refine wpAnyH_ready (rs := [8]) (by kernel_rfl) (by simp) (cons_lit (i := 8) rfl (fun K hK => ?_) AllReadyH.nil)
            obtain ⟨kc, kf⟩ := HC.out.at_ 0 rfl
            go_simp
            have HN := Lib.hid (HC.out.set 0 rfl (.func (.func 108) #[] #[.pointer (some ⟨X1, 0, none⟩)]))
            simp only [List.set_cons_zero] at HN
            clear kc kf
            refine hK.out _ _ ((HN.out.1.cell (p := ⟨B1, 0, none⟩) hb1).trans c1) (fun hHeld2 => ?_)
            clear hK K hHeld HC
            have HC := HN
            have hHeld := hHeld2
            clear HN hHeld2
            try simp only [Act.put, List.setIfInBounds_toArray, List.set_cons_zero, List.set_cons_succ]
            generalize hgw : w8.setCell _ _ = w9 at HC hHeld ⊢
            clear hgw
            refine wpAnyH_ready (rs := [9]) (by kernel_rfl) (by simp) (cons_lit (i := 9) rfl (fun K hK => ?_) AllReadyH.nil)
            obtain ⟨kc, kf⟩ := HC.out.at_ 3 rfl
            go_simp
            have HN := Lib.hid (HC.out.set 3 rfl (.func (.func 108) #[] #[.pointer (some ⟨X2, 0, none⟩)]))
            simp only [List.set_cons_zero, List.set_cons_succ] at HN
            clear kc kf
            refine hK.out _ _ ((HN.out.1.cell (p := ⟨B1, 0, none⟩) hb1).trans c1) (fun hHeld2 => ?_)
            clear hK K hHeld HC
            have HC := HN
            have hHeld := hHeld2
            clear HN hHeld2
            try simp only [Act.put, List.setIfInBounds_toArray, List.set_cons_zero, List.set_cons_succ]
            generalize hgw : w9.setCell _ _ = w10 at HC hHeld ⊢
            clear hgw
            refine wpAnyH_done (by kernel_rfl) ?_ _
            go_wp2_with fail
            go_meet
            exact ⟨B5, B6, X1, X2, rfl, rfl, HC.out.newC (by simp) (by simp) (by simp) (by simp)⟩
          · skip
            go_simp
            have HN := Lib.hid (HC.out.alloc .nilFunc 131)
            refine hK.out _ _ ((HN.out.1.cell (p := ⟨B1, 0, none⟩) hb1).trans c1) (fun hHeld2 => ?_)
            clear hK K hHeld HC
            have HC := HN
            have hHeld := hHeld2
            clear HN hHeld2
            try simp only [Act.put, List.setIfInBounds_toArray, List.set_cons_zero, List.set_cons_succ]
            generalize hgw : w6.alloc _ = w7 at HC hHeld ⊢
            clear hgw
            generalize w6.heap.size = B5 at HC ⊢
            refine wpAnyH_ready (rs := [5]) (by kernel_rfl) (by simp) (cons_lit (i := 5) rfl (fun K hK => ?_) AllReadyH.nil)
            go_simp
            refine (into_make _ _ _ _).mono ?_
            rintro e wz ⟨rfl, rfl⟩
            try go_simp
            have HN := Lib.hid (HC.out.alloc (.func (.func 83) #[.pointer (some ⟨b, 0, none⟩)] #[]) 133)
            refine hK.out _ _ ((HN.out.1.cell (p := ⟨B1, 0, none⟩) hb1).trans c1) (fun hHeld2 => ?_)
            clear hK K hHeld HC
            have HC := HN
            have hHeld := hHeld2
            clear HN hHeld2
            try simp only [Act.put, List.setIfInBounds_toArray, List.set_cons_zero, List.set_cons_succ]
            generalize hgw : w7.alloc _ = w8 at HC hHeld ⊢
            clear hgw
            generalize w7.heap.size = X2 at HC ⊢
            refine wpAnyH_ready (rs := [8]) (by kernel_rfl) (by simp) (cons_lit (i := 8) rfl (fun K hK => ?_) AllReadyH.nil)
            obtain ⟨kc, kf⟩ := HC.out.at_ 1 rfl
            go_simp
            have HN := Lib.hid (HC.out.set 1 rfl (.func (.func 108) #[] #[.pointer (some ⟨X1, 0, none⟩)]))
            simp only [List.set_cons_zero, List.set_cons_succ] at HN
            clear kc kf
            refine hK.out _ _ ((HN.out.1.cell (p := ⟨B1, 0, none⟩) hb1).trans c1) (fun hHeld2 => ?_)
            clear hK K hHeld HC
            have HC := HN
            have hHeld := hHeld2
            clear HN hHeld2
            try simp only [Act.put, List.setIfInBounds_toArray, List.set_cons_zero, List.set_cons_succ]
            generalize hgw : w8.setCell _ _ = w9 at HC hHeld ⊢
            clear hgw
            refine wpAnyH_ready (rs := [9]) (by kernel_rfl) (by simp) (cons_lit (i := 9) rfl (fun K hK => ?_) AllReadyH.nil)
            obtain ⟨kc, kf⟩ := HC.out.at_ 3 rfl
            go_simp
            have HN := Lib.hid (HC.out.set 3 rfl (.func (.func 108) #[] #[.pointer (some ⟨X2, 0, none⟩)]))
            simp only [List.set_cons_zero, List.set_cons_succ] at HN
            clear kc kf
            refine hK.out _ _ ((HN.out.1.cell (p := ⟨B1, 0, none⟩) hb1).trans c1) (fun hHeld2 => ?_)
            clear hK K hHeld HC
            have HC := HN
            have hHeld := hHeld2
            clear HN hHeld2
            try simp only [Act.put, List.setIfInBounds_toArray, List.set_cons_zero, List.set_cons_succ]
            generalize hgw : w9.setCell _ _ = w10 at HC hHeld ⊢
            clear hgw
            refine wpAnyH_done (by kernel_rfl) ?_ _
            go_wp2_with fail
            go_meet
            exact ⟨B5, B6, X1, X2, rfl, rfl, HC.out.newC (by simp) (by simp) (by simp) (by simp)⟩
        · skip
          go_simp
          have HN := Lib.hid (HC.out.alloc .nilFunc 131)
          refine hK.out _ _ ((HN.out.1.cell (p := ⟨B1, 0, none⟩) hb1).trans c1) (fun hHeld2 => ?_)
          clear hK K hHeld HC
          have HC := HN
          have hHeld := hHeld2
          clear HN hHeld2
          try simp only [Act.put, List.setIfInBounds_toArray, List.set_cons_zero, List.set_cons_succ]
          generalize hgw : w5.alloc _ = w6 at HC hHeld ⊢
          clear hgw
          generalize w5.heap.size = B5 at HC ⊢
          refine wpAnyH_ready (rs := [2]) (by kernel_rfl) (by simp) (cons_lit (i := 2) rfl (fun K hK => ?_) AllReadyH.nil)
          go_simp
          refine (into_make _ _ _ _).mono ?_
          rintro e wz ⟨rfl, rfl⟩
          try go_simp
          have HN := Lib.hid (HC.out.alloc (.func (.func 82) #[.pointer (some ⟨b, 0, none⟩)] #[]) 133)
          refine hK.out _ _ ((HN.out.1.cell (p := ⟨B1, 0, none⟩) hb1).trans c1) (fun hHeld2 => ?_)
          clear hK K hHeld HC
          have HC := HN
          have hHeld := hHeld2
          clear HN hHeld2
          try simp only [Act.put, List.setIfInBounds_toArray, List.set_cons_zero, List.set_cons_succ]
          generalize hgw : w6.alloc _ = w7 at HC hHeld ⊢
          clear hgw
          generalize w6.heap.size = X1 at HC ⊢
          refine wpAnyH_ready (rs := [5]) (by kernel_rfl) (by simp) (cons_lit (i := 5) rfl (fun K hK => ?_) AllReadyH.nil)
          go_simp
          refine (into_make _ _ _ _).mono ?_
          rintro e wz ⟨rfl, rfl⟩
          try go_simp
          have HN := Lib.hid (HC.out.alloc (.func (.func 83) #[.pointer (some ⟨b, 0, none⟩)] #[]) 133)
          refine hK.out _ _ ((HN.out.1.cell (p := ⟨B1, 0, none⟩) hb1).trans c1) (fun hHeld2 => ?_)
          clear hK K hHeld HC
          have HC := HN
          have hHeld := hHeld2
          clear HN hHeld2
          try simp only [Act.put, List.setIfInBounds_toArray, List.set_cons_zero, List.set_cons_succ]
          generalize hgw : w7.alloc _ = w8 at HC hHeld ⊢
          clear hgw
          generalize w7.heap.size = X2 at HC ⊢
          refine wpAnyH_ready (rs := [8]) (by kernel_rfl) (by simp) (cons_lit (i := 8) rfl (fun K hK => ?_) AllReadyH.nil)
          obtain ⟨kc, kf⟩ := HC.out.at_ 2 rfl
          go_simp
          have HN := Lib.hid (HC.out.set 2 rfl (.func (.func 108) #[] #[.pointer (some ⟨X1, 0, none⟩)]))
          simp only [List.set_cons_zero, List.set_cons_succ] at HN
          clear kc kf
          refine hK.out _ _ ((HN.out.1.cell (p := ⟨B1, 0, none⟩) hb1).trans c1) (fun hHeld2 => ?_)
          clear hK K hHeld HC
          have HC := HN
          have hHeld := hHeld2
          clear HN hHeld2
          try simp only [Act.put, List.setIfInBounds_toArray, List.set_cons_zero, List.set_cons_succ]
          generalize hgw : w8.setCell _ _ = w9 at HC hHeld ⊢
          clear hgw
          refine wpAnyH_ready (rs := [9]) (by kernel_rfl) (by simp) (cons_lit (i := 9) rfl (fun K hK => ?_) AllReadyH.nil)
          obtain ⟨kc, kf⟩ := HC.out.at_ 3 rfl
          go_simp
          have HN := Lib.hid (HC.out.set 3 rfl (.func (.func 108) #[] #[.pointer (some ⟨X2, 0, none⟩)]))
          simp only [List.set_cons_zero, List.set_cons_succ] at HN
          clear kc kf
          refine hK.out _ _ ((HN.out.1.cell (p := ⟨B1, 0, none⟩) hb1).trans c1) (fun hHeld2 => ?_)
          clear hK K hHeld HC
          have HC := HN
          have hHeld := hHeld2
          clear HN hHeld2
          try simp only [Act.put, List.setIfInBounds_toArray, List.set_cons_zero, List.set_cons_succ]
          generalize hgw : w9.setCell _ _ = w10 at HC hHeld ⊢
          clear hgw
          refine wpAnyH_done (by kernel_rfl) ?_ _
          go_wp2_with fail
          go_meet
          exact ⟨B5, B6, X1, X2, rfl, rfl, HC.out.newC (by simp) (by simp) (by simp) (by simp)⟩
  case rest =>
    obtain ⟨B5, B6, X1, X2, rfl, rfl, hN⟩ := hcut
    have hq0 := RdQ.start HR.out.1 HR.out.2 HK.out.1 HK.out.2.2 (by omega) hN
    have k2 : wc.heap[w.heap.size + 1]? = _ := (Only.of_below hN.1 (fun _ => False)).heap HK.out.2.1 id
    have d1 := (hN.1.cell (p := ⟨B1, 0, none⟩) hb1).trans c1
    have d5 := hN.2.1.1
    have ho0 := Only.of_below (HK.out.1.trans (hN.1.mono HK.out.1.size)) (fun k => k = b)
    have hE1 : w.heap.size + 1 = B2 := by have := HB1.out; have := HB.out.1; omega
    have hE2 : w.heap.size + 1 + 1 = B4 := by have := HB1.out; have := HB.out; omega
    rw [hE1] at k2
    rw [hE2] at hq0
    have hE3 : w.heap.size ≤ B1 ∧ w.heap.size ≤ B2 ∧ w.heap.size ≤ B4 ∧ B1 ≠ B4 ∧ B2 ≠ B4 ∧ B2 ≠ B1 := by have := HB1.out; have := HB.out; omega
    have HE := Lib.hid hE3
    have HQ0 := Lib.hid hq0
    have HO0 := Lib.hid ho0
    have HU := Lib.hid (call_u hq0 [0] _ rfl 1 rfl (by simp) (by intro o ho; simp at ho; subst ho; decide))
    have HS := Lib.hid (And.intro k2 (And.intro d1 d5))
    clear hq0 ho0 hE1 hE2 hE3 hN k2 hb1
    go_wp2_with fail
    refine HU.out.mono ?_
    rintro e w5 ⟨ho5, hm5⟩
    have HO5 := Lib.hid (HO0.out.trans ho5 (fun k hk hh => hh.elim id (fun e => absurd e (by have := HE.out; omega))))
    have hnb := HQ0.out.nb
    have hb12 : B1 ≠ b ∧ B2 ≠ b := by have := HR.out.1; obtain ⟨v, k1, _⟩ := this; have := (Array.getElem?_eq_some_iff.1 k1).1; have := HE.out; omega
    have HBN := Lib.hid hb12
    have k2 := ho5.heap HS.out.1 (fun e => e.elim HBN.out.2 HE.out.2.2.2.2.1)
    have d1n := ho5.cell (p := ⟨B1, 0, none⟩) d1 (fun e => e.elim HBN.out.1 HE.out.2.2.2.1)
    clear ho5 hb12 d1 c1
    cases hg0 : rdNs rdUI 1 (all.drop p) with
    | none =>
      rw [show ([0] : List Nat).length = 1 from rfl, hg0] at hm5
      obtain ⟨rfl, pE, csE, hsE, hqE⟩ := hm5
      have HNO := Lib.hid (show rdEnt (all.drop p) = none by simp only [rdEnt, hg0])
      clear hqE hg0 hsE
      obtain ⟨⟨z0, z1, z2, z3⟩, y0, y1, y2, y3⟩ := blk4 k2
      go_wp2_with fail
      refine bodyPost_ret (results_cell_row2 rfl _ _ _ _ _ _ _ rfl (put4 k2 _ _ _ _) Tryz.underlying26 rfl (by kernel_rfl)) rfl ⟨only4 HO5.out HE.out.2.1 _ _ _ _, ?_⟩
      rw [HNO.out]
      exact rfl
    | some y =>
      obtain ⟨ns, rest⟩ := y
      rw [show ([0] : List Nat).length = 1 from rfl, hg0] at hm5
      obtain ⟨rfl, p1, rfl, hq1⟩ := hm5
      obtain ⟨eid, rfl⟩ := one1 (rdNs_len hg0)
      have HQ1 := Lib.hid (show RdQ F b all B5 B6 X1 X2 B4 26 p1 #[.int .i64 eid, .slice none 0 0, .slice none 0 0, .slice none 0 0] w5 from hq1)
      have HG0 := Lib.hid hg0
      clear hq1 hg0
      have d5_2 := HQ1.out.2.1.1
      have HL2 := Lib.hid (list_op F b all B5 B6 X1 X2 p1 64 w5 HQ1.out.rdb (by decide))
      go_wp2_with fail
      refine HL2.out.mono ?_
      rintro e wb2 ⟨hoB, hmB⟩
      clear HL2 d5_2
      have HO2b := Lib.hid (HO5.out.trans hoB (fun _ _ h => h))
      have k2_2 := hoB.heap k2 HBN.out.2
      have d1_2 := hoB.cell (p := ⟨B1, 0, none⟩) d1n HBN.out.1
      have b4_2 := hoB.heap HQ1.out.2.2.1 HQ1.out.nb
      obtain ⟨⟨z0, z1, z2, z3⟩, y0, y1, y2, y3⟩ := blk4 b4_2
      cases hg : rdL rdOp 64 (all.drop p1) with
      | none =>
        rw [hg] at hmB
        obtain rfl := hmB
        have HNO := Lib.hid (show rdEnt (all.drop p) = none by simp only [rdEnt, HG0.out, hg])
        clear hg hoB k2 d1n d1_2
        go_upto_region 7 with fail
        have k2c := (Only.set1 wb2 B4 1 (.slice none 0 0)).heap k2_2 HE.out.2.2.2.2.1
        have HOc := Lib.hid (HO2b.out.setCell (p := ⟨B4, 1, none⟩) (fun e => absurd e (Nat.not_lt.2 HE.out.2.2.1)) (.slice none 0 0))
        generalize wb2.setCell ⟨B4, 1, none⟩ (.slice none 0 0) = wz at k2c HOc ⊢
        clear z0 z1 z2 z3 y0 y1 y2 y3
        obtain ⟨⟨z0, z1, z2, z3⟩, y0, y1, y2, y3⟩ := blk4 k2c
        go_wp2_with fail
        refine bodyPost_ret (results_cell_row2 rfl _ _ _ _ _ _ _ rfl (put4 k2c _ _ _ _) Tryz.underlying26 rfl (by kernel_rfl)) rfl ⟨only4 HOc.out HE.out.2.1 _ _ _ _, ?_⟩
        rw [HNO.out]
        exact rfl
      | some y =>
        obtain ⟨ops, rest⟩ := y
        rw [hg] at hmB
        obtain ⟨g2, p2, rfl, hg2, hk2, rfl, hb2⟩ := hmB
        have HG1 := Lib.hid hg
        have HQ2b := Lib.hid (HQ1.out.again hoB hb2)
        have hgne : w.heap.size ≤ g2 ∧ g2 ≠ b ∧ g2 ≠ B4 ∧ g2 ≠ B2 := by have h1 := HO5.out.size; have h2 := HQ1.out.lt; have h3 := HQ1.out.blt; have h4 : B2 < w5.heap.size := (Array.getElem?_eq_some_iff.1 k2).1; omega
        have HK2 := Lib.hid (RdK.mono (G := fun k => w.heap.size ≤ k ∧ k ≠ b ∧ k ≠ B4 ∧ k ≠ B2) hk2 (fun k hk => by subst hk; exact hgne))
        clear hg hoB k2 d1n hg2 hk2 hb2 hgne
        go_upto_region 7 with fail
        have ho1 := Only.set1 wb2 B4 1 (.slice (some ⟨g2, 0, none⟩) ops.length ops.length)
        have HQ2 := Lib.hid (show RdQ F b all B5 B6 X1 X2 B4 26 p2 #[.int .i64 eid, .slice (some ⟨g2, 0, none⟩) ops.length ops.length, .slice none 0 0, .slice none 0 0] _ from HQ2b.out.setc 1 (.slice (some ⟨g2, 0, none⟩) ops.length ops.length))
        have k2c2 := ho1.heap k2_2 HE.out.2.2.2.2.1
        have d1c2 := ho1.cell (p := ⟨B1, 0, none⟩) d1_2 HE.out.2.2.2.1
        have HO2 := Lib.hid (HO2b.out.setCell (p := ⟨B4, 1, none⟩) (fun e => absurd e (Nat.not_lt.2 HE.out.2.2.1)) (.slice (some ⟨g2, 0, none⟩) ops.length ops.length))
        have HK2c := Lib.hid (HK2.out.only ho1 (fun k hk e => hk.2.2.1 e))
        clear ho1 k2_2 d1_2 b4_2 z0 z1 z2 z3 y0 y1 y2 y3
        generalize wb2.setCell ⟨B4, 1, none⟩ (.slice (some ⟨g2, 0, none⟩) ops.length ops.length) = wc2 at HQ2 k2c2 d1c2 HO2 HK2c ⊢
        have d5_3 := HQ2.out.2.1.1
        have HL3 := Lib.hid (list_num F b all B5 B6 X1 X2 p2 8 wc2 HQ2.out.rdb (by decide))
        go_wp2_with fail
        refine HL3.out.mono ?_
        rintro e wb3 ⟨hoB, hmB⟩
        clear HL3 d5_3
        have HO3b := Lib.hid (HO2.out.trans hoB (fun _ _ h => h))
        have k2_3 := hoB.heap k2c2 HBN.out.2
        have d1_3 := hoB.cell (p := ⟨B1, 0, none⟩) d1c2 HBN.out.1
        have b4_3 := hoB.heap HQ2.out.2.2.1 HQ2.out.nb
        have HK2c_3 := Lib.hid (HK2c.out.only hoB (fun k hk e => hk.2.1 e))
        obtain ⟨⟨z0, z1, z2, z3⟩, y0, y1, y2, y3⟩ := blk4 b4_3
        cases hg : rdL rdI 8 (all.drop p2) with
        | none =>
          rw [hg] at hmB
          obtain rfl := hmB
          have HNO := Lib.hid (show rdEnt (all.drop p) = none by simp only [rdEnt, HG0.out, HG1.out, hg])
          clear hg hoB k2c2 d1c2 d1_3
          go_upto_region 10 with fail
          have k2c := (Only.set1 wb3 B4 2 (.slice none 0 0)).heap k2_3 HE.out.2.2.2.2.1
          have HOc := Lib.hid (HO3b.out.setCell (p := ⟨B4, 2, none⟩) (fun e => absurd e (Nat.not_lt.2 HE.out.2.2.1)) (.slice none 0 0))
          generalize wb3.setCell ⟨B4, 2, none⟩ (.slice none 0 0) = wz at k2c HOc ⊢
          clear z0 z1 z2 z3 y0 y1 y2 y3
          obtain ⟨⟨z0, z1, z2, z3⟩, y0, y1, y2, y3⟩ := blk4 k2c
          go_wp2_with fail
          refine bodyPost_ret (results_cell_row2 rfl _ _ _ _ _ _ _ rfl (put4 k2c _ _ _ _) Tryz.underlying26 rfl (by kernel_rfl)) rfl ⟨only4 HOc.out HE.out.2.1 _ _ _ _, ?_⟩
          rw [HNO.out]
          exact rfl
        | some y =>
          obtain ⟨args, rest⟩ := y
          rw [hg] at hmB
          obtain ⟨g3, p3, rfl, hg3, hk3, rfl, hb3⟩ := hmB
          have HG2 := Lib.hid hg
          have HQ3b := Lib.hid (HQ2.out.again hoB hb3)
          have hgne : w.heap.size ≤ g3 ∧ g3 ≠ b ∧ g3 ≠ B4 ∧ g3 ≠ B2 := by have h1 := HO2.out.size; have h2 := HQ2.out.lt; have h3 := HQ2.out.blt; have h4 : B2 < wc2.heap.size := (Array.getElem?_eq_some_iff.1 k2c2).1; omega
          have HK3 := Lib.hid (RdK.mono (G := fun k => w.heap.size ≤ k ∧ k ≠ b ∧ k ≠ B4 ∧ k ≠ B2) hk3 (fun k hk => by subst hk; exact hgne))
          clear hg hoB k2c2 d1c2 hg3 hk3 hb3 hgne
          go_upto_region 10 with fail
          have ho1 := Only.set1 wb3 B4 2 (.slice (some ⟨g3, 0, none⟩) args.length args.length)
          have HQ3 := Lib.hid (show RdQ F b all B5 B6 X1 X2 B4 26 p3 #[.int .i64 eid, .slice (some ⟨g2, 0, none⟩) ops.length ops.length, .slice (some ⟨g3, 0, none⟩) args.length args.length, .slice none 0 0] _ from HQ3b.out.setc 2 (.slice (some ⟨g3, 0, none⟩) args.length args.length))
          have k2c3 := ho1.heap k2_3 HE.out.2.2.2.2.1
          have d1c3 := ho1.cell (p := ⟨B1, 0, none⟩) d1_3 HE.out.2.2.2.1
          have HO3 := Lib.hid (HO3b.out.setCell (p := ⟨B4, 2, none⟩) (fun e => absurd e (Nat.not_lt.2 HE.out.2.2.1)) (.slice (some ⟨g3, 0, none⟩) args.length args.length))
          have HK2cc3 := Lib.hid (HK2c_3.out.only ho1 (fun k hk e => hk.2.2.1 e))
          have HK3c := Lib.hid (HK3.out.only ho1 (fun k hk e => hk.2.2.1 e))
          clear ho1 k2_3 d1_3 b4_3 z0 z1 z2 z3 y0 y1 y2 y3
          generalize wb3.setCell ⟨B4, 2, none⟩ (.slice (some ⟨g3, 0, none⟩) args.length args.length) = wc3 at HQ3 k2c3 d1c3 HO3 HK2cc3 HK3c ⊢
          have d5_4 := HQ3.out.2.1.1
          have HL4 := Lib.hid (list_cl F b all B5 B6 X1 X2 B1 p3 64 wc3 HQ3.out.rdb (by decide) d1c3 HBN.out.1)
          go_wp2_with fail
          refine HL4.out.mono ?_
          rintro e wb4 ⟨hoB, hmB⟩
          clear HL4 d5_4
          have HO4b := Lib.hid (HO3.out.trans hoB (fun _ _ h => h))
          have k2_4 := hoB.heap k2c3 HBN.out.2
          have d1_4 := hoB.cell (p := ⟨B1, 0, none⟩) d1c3 HBN.out.1
          have b4_4 := hoB.heap HQ3.out.2.2.1 HQ3.out.nb
          have HK2cc3_4 := Lib.hid (HK2cc3.out.only hoB (fun k hk e => hk.2.1 e))
          have HK3c_4 := Lib.hid (HK3c.out.only hoB (fun k hk e => hk.2.1 e))
          obtain ⟨⟨z0, z1, z2, z3⟩, y0, y1, y2, y3⟩ := blk4 b4_4
          cases hg : rdL rdCl 64 (all.drop p3) with
          | none =>
            rw [hg] at hmB
            obtain rfl := hmB
            have HNO := Lib.hid (show rdEnt (all.drop p) = none by simp only [rdEnt, HG0.out, HG1.out, HG2.out, hg])
            clear hg hoB k2c3 d1c3 d1_4
            go_upto_region 13 with fail
            have k2c := (Only.set1 wb4 B4 3 (.slice none 0 0)).heap k2_4 HE.out.2.2.2.2.1
            have HOc := Lib.hid (HO4b.out.setCell (p := ⟨B4, 3, none⟩) (fun e => absurd e (Nat.not_lt.2 HE.out.2.2.1)) (.slice none 0 0))
            generalize wb4.setCell ⟨B4, 3, none⟩ (.slice none 0 0) = wz at k2c HOc ⊢
            clear z0 z1 z2 z3 y0 y1 y2 y3
            obtain ⟨⟨z0, z1, z2, z3⟩, y0, y1, y2, y3⟩ := blk4 k2c
            go_wp2_with fail
            refine bodyPost_ret (results_cell_row2 rfl _ _ _ _ _ _ _ rfl (put4 k2c _ _ _ _) Tryz.underlying26 rfl (by kernel_rfl)) rfl ⟨only4 HOc.out HE.out.2.1 _ _ _ _, ?_⟩
            rw [HNO.out]
            exact rfl
          | some y =>
            obtain ⟨cls, rest⟩ := y
            rw [hg] at hmB
            obtain ⟨g4, p4, rfl, hg4, hk4, rfl, hb4⟩ := hmB
            have HG3 := Lib.hid hg
            have HQ4b := Lib.hid (HQ3.out.again hoB hb4)
            have hgne : w.heap.size ≤ g4 ∧ g4 ≠ b ∧ g4 ≠ B4 ∧ g4 ≠ B2 := by have h1 := HO3.out.size; have h2 := HQ3.out.lt; have h3 := HQ3.out.blt; have h4 : B2 < wc3.heap.size := (Array.getElem?_eq_some_iff.1 k2c3).1; omega
            have HK4 := Lib.hid (RdK.mono (G := fun k => w.heap.size ≤ k ∧ k ≠ b ∧ k ≠ B4 ∧ k ≠ B2) hk4 (fun k hk => by subst hk; exact hgne))
            clear hg hoB k2c3 d1c3 hg4 hk4 hb4 hgne
            go_upto_region 13 with fail
            have ho1 := Only.set1 wb4 B4 3 (.slice (some ⟨g4, 0, none⟩) cls.length cls.length)
            have HQ4 := Lib.hid (show RdQ F b all B5 B6 X1 X2 B4 26 p4 #[.int .i64 eid, .slice (some ⟨g2, 0, none⟩) ops.length ops.length, .slice (some ⟨g3, 0, none⟩) args.length args.length, .slice (some ⟨g4, 0, none⟩) cls.length cls.length] _ from HQ4b.out.setc 3 (.slice (some ⟨g4, 0, none⟩) cls.length cls.length))
            have k2c4 := ho1.heap k2_4 HE.out.2.2.2.2.1
            have d1c4 := ho1.cell (p := ⟨B1, 0, none⟩) d1_4 HE.out.2.2.2.1
            have HO4 := Lib.hid (HO4b.out.setCell (p := ⟨B4, 3, none⟩) (fun e => absurd e (Nat.not_lt.2 HE.out.2.2.1)) (.slice (some ⟨g4, 0, none⟩) cls.length cls.length))
            have HK2cc3c4 := Lib.hid (HK2cc3_4.out.only ho1 (fun k hk e => hk.2.2.1 e))
            have HK3cc4 := Lib.hid (HK3c_4.out.only ho1 (fun k hk e => hk.2.2.1 e))
            have HK4c := Lib.hid (HK4.out.only ho1 (fun k hk e => hk.2.2.1 e))
            clear ho1 k2_4 d1_4 b4_4 z0 z1 z2 z3 y0 y1 y2 y3
            generalize wb4.setCell ⟨B4, 3, none⟩ (.slice (some ⟨g4, 0, none⟩) cls.length cls.length) = wc4 at HQ4 k2c4 d1c4 HO4 HK2cc3c4 HK3cc4 HK4c ⊢
            have HLf := Lib.hid (Left_ok wc4 F b all p4 HQ4.out.1)
            go_wp2_with fail
            refine HLf.out.mono ?_
            rintro e wl ⟨rfl, hol⟩
            clear HLf
            have k2l := hol.heap k2c4 id
            have HOl := Lib.hid (HO4.out.trans hol (fun _ _ h => False.elim h))
            have b4l := hol.heap HQ4.out.2.2.1 id
            have hpl : p4 ≤ all.length := by obtain ⟨⟨_, _, _, hp, _⟩, _⟩ := HQ4.out; exact hp
            have HK2cc3c4l := Lib.hid (HK2cc3c4.out.only hol (fun k hk e => e))
            have HK3cc4l := Lib.hid (HK3cc4.out.only hol (fun k hk e => e))
            have HK4cl := Lib.hid (HK4c.out.only hol (fun k hk e => e))
            by_cases hlen : p4 = all.length
            · have hz : ((all.length : Int) - (p4 : Int)) = 0 := by omega
              rw [hz]
              have HYS := Lib.hid (show rdEnt (all.drop p) = some ⟨eid, ops, args, cls⟩ by simp only [rdEnt, HG0.out, HG1.out, HG2.out, HG3.out]; rw [if_pos (by rw [hlen]; simp)])
              clear hz hlen hol k2c4 d1c4
              obtain ⟨⟨z0, z1, z2, z3⟩, y0, y1, y2, y3⟩ := blk4 k2l
              obtain ⟨⟨x0, x1, x2, x3⟩, _, _, _, _⟩ := blk4 b4l
              go_wp2_with fail
              refine bodyPost_ret (results_cell_row2 rfl _ _ _ _ _ _ _ rfl (put4 k2l _ _ _ _) Tryz.underlying26 rfl (by kernel_rfl)) rfl ⟨only4 HOl.out HE.out.2.1 _ _ _ _, ?_⟩
              rw [HYS.out]
              have hoz := only4b wl B2
              refine ⟨_, _, _, rfl, RdK.mono (HK2cc3c4l.out.only (hoz _ _ _ _) (fun k hk e => hk.2.2.2 e)) (fun k hk => hk.1), nums_rd (RdK.mono (HK3cc4l.out.only (hoz _ _ _ _) (fun k hk e => hk.2.2.2 e)) (fun k hk => hk.1)), RdK.mono (HK4cl.out.only (hoz _ _ _ _) (fun k hk e => hk.2.2.2 e)) (fun k hk => hk.1)⟩
            · have hz : (((all.length : Int) - (p4 : Int)) != 0) = true := by simp; omega
              have HNO := Lib.hid (show rdEnt (all.drop p) = none by simp only [rdEnt, HG0.out, HG1.out, HG2.out, HG3.out]; rw [if_neg (fun e => hlen (by have := congrArg List.length e; simp at this; omega))])
              clear hlen hol k2c4 d1c4
              obtain ⟨⟨z0, z1, z2, z3⟩, y0, y1, y2, y3⟩ := blk4 k2l
              go_wp2_with fail
              refine bodyPost_ret (results_cell_row2 rfl _ _ _ _ _ _ _ rfl (put4 k2l _ _ _ _) Tryz.underlying26 rfl (by kernel_rfl)) rfl ⟨only4 HOl.out HE.out.2.1 _ _ _ _, ?_⟩
              rw [HNO.out]
              exact rfl
end Go.Proofs.YtihjcfifakcpgaaGreatDoor
