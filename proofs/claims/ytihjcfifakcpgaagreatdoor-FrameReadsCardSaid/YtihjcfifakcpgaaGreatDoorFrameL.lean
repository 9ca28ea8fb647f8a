/- One op, one number, one claim that is read into a cell. -/
import Derived.Test.YtihjcfifakcpgaaGreatDoorFrameI
import Derived.Test.YtihjcfifakcpgaaGreatDoorFtZ
namespace Go.Proofs.YtihjcfifakcpgaaGreatDoor
set_option maxRecDepth 100000
open Go.RowKit

/-- The boxes of the closures that read. -/
def RdC (b B5 B6 X1 X2 : Nat) (w : World) : Prop := w.cell? ⟨B5, 0, none⟩ = some (.func (.func 108) #[] #[.pointer (some ⟨X1, 0, none⟩)]) ∧ w.cell? ⟨B6, 0, none⟩ = some (.func (.func 108) #[] #[.pointer (some ⟨X2, 0, none⟩)]) ∧ w.cell? ⟨X1, 0, none⟩ = some (.func (.func 82) #[.pointer (some ⟨b, 0, none⟩)] #[]) ∧ w.cell? ⟨X2, 0, none⟩ = some (.func (.func 83) #[.pointer (some ⟨b, 0, none⟩)] #[])
def AptC (T B5 B6 X1 X2 : Nat) : Prop := B5 ≠ T ∧ B6 ≠ T ∧ X1 ≠ T ∧ X2 ≠ T
theorem RdC.only {b B5 B6 X1 X2 : Nat} {w w' : World} {S : Nat → Prop} (h : RdC b B5 B6 X1 X2 w) (ho : Only S w w') (h1 : ¬ S B5) (h2 : ¬ S B6) (h3 : ¬ S X1) (h4 : ¬ S X2) : RdC b B5 B6 X1 X2 w' :=
  ⟨ho.cell (p := ⟨B5, 0, none⟩) h.1 h1, ho.cell (p := ⟨B6, 0, none⟩) h.2.1 h2, ho.cell (p := ⟨X1, 0, none⟩) h.2.2.1 h3, ho.cell (p := ⟨X2, 0, none⟩) h.2.2.2 h4⟩
/-- A reader, its closures, and a block that is read into. -/
def RdQ (F : Nat → Prop) (b : Nat) (all : List UInt8) (B5 B6 X1 X2 T : Nat) (t : TypeId) (p : Nat) (cs : Array Value) (w : World) : Prop :=
  RdrAt w F b all p ∧ RdC b B5 B6 X1 X2 w ∧ w.heap[T]? = some (.cells cs t (0, 0)) ∧ ¬ F T ∧ AptC b B5 B6 X1 X2 ∧ AptC T B5 B6 X1 X2 ∧ ∀ k, F k → k < w.heap.size
section
variable {F : Nat → Prop} {b : Nat} {all : List UInt8} {B5 B6 X1 X2 T : Nat} {t : TypeId} {p : Nat} {cs : Array Value} {w w' : World}
theorem RdQ.below (h : RdQ F b all B5 B6 X1 X2 T t p cs w) (hb : Below w.heap.size w w') : RdQ F b all B5 B6 X1 X2 T t p cs w' :=
  ⟨h.1.below hb, h.2.1.only (Only.of_below hb (fun _ => False)) id id id id, (Only.of_below hb (fun _ => False)).heap h.2.2.1 id, h.2.2.2.1, h.2.2.2.2.1, h.2.2.2.2.2.1, fun k hk => Nat.lt_of_lt_of_le (h.2.2.2.2.2.2 k hk) hb.size⟩
/-- Behind a reading into the block. -/
def StepQ (rd : List UInt8 → Option (Int × List UInt8)) (F : Nat → Prop) (b : Nat) (all : List UInt8) (B5 B6 X1 X2 T : Nat) (t : TypeId) (p : Nat) (os : List Nat) (cs : Array Value) (w : World) (e : Ending) (w' : World) : Prop :=
  Only (fun k => k = b ∨ k = T) w w' ∧ match rdNs rd os.length (all.drop p) with
    | some (ns, rest) => e = .returned (.bool true) ∧ ∃ p', rest = all.drop p' ∧ RdQ F b all B5 B6 X1 X2 T t p' (setMany cs os ns) w'
    | none => e = .returned (.bool false) ∧ ∃ p' cs', cs'.size = cs.size ∧ RdQ F b all B5 B6 X1 X2 T t p' cs' w'
theorem RdQ.step {rd : List UInt8 → Option (Int × List UInt8)} {os : List Nat} {e : Ending} {w0 : World} (h : RdQ F b all B5 B6 X1 X2 T t p cs w) (hw : Below w0.heap.size w0 w) (hq : IntoP rd F b all p T os cs t w e w') : StepQ rd F b all B5 B6 X1 X2 T t p os cs w0 e w' := by
  obtain ⟨ho, hm⟩ := hq
  obtain ⟨h1, h2, h3, h4, h5, h6, h7⟩ := h
  have h8 : ∀ k, F k → k < w'.heap.size := fun k hk => Nat.lt_of_lt_of_le (h7 k hk) ho.size
  have hc : RdC b B5 B6 X1 X2 w' := h2.only ho (fun e => e.elim h5.1 h6.1) (fun e => e.elim h5.2.1 h6.2.1) (fun e => e.elim h5.2.2.1 h6.2.2.1) (fun e => e.elim h5.2.2.2 h6.2.2.2)
  refine ⟨(Only.of_below hw _).trans ho (fun _ _ h => h), ?_⟩
  cases hg : rdNs rd os.length (all.drop p) with
  | none =>
    rw [hg] at hm
    obtain ⟨e1, ⟨cs', hs, hT⟩, p', hr⟩ := hm
    exact ⟨e1, p', cs', hs, hr, hc, hT, h4, h5, h6, h8⟩
  | some x =>
    obtain ⟨ns, rest⟩ := x
    rw [hg] at hm
    obtain ⟨e1, hT, p', hrest, hr⟩ := hm
    exact ⟨e1, p', hrest, hr, hc, hT, h4, h5, h6, h8⟩
/-- A new box that is read into. -/
theorem RdQ.box (h : RdQ F b all B5 B6 X1 X2 T t p cs w) (cs7 : Array Value) (t7 : TypeId) : RdQ F b all B5 B6 X1 X2 w.heap.size t7 p cs7 (w.alloc (.cells cs7 t7)) := by
  have hb := one_box w (.cells cs7 t7)
  obtain ⟨h1, h2, h3, h4, h5, h6, h7⟩ := h.below hb
  obtain ⟨_, k2, _, _, _, _, k7⟩ := h
  have q1 : B5 < w.heap.size := World.block_lt_of_cell? _ _ k2.1
  have q2 : B6 < w.heap.size := World.block_lt_of_cell? _ _ k2.2.1
  have q3 : X1 < w.heap.size := World.block_lt_of_cell? _ _ k2.2.2.1
  have q4 : X2 < w.heap.size := World.block_lt_of_cell? _ _ k2.2.2.2
  exact ⟨h1, h2, heap_alloc_new _ _, fun hF => by have := k7 _ hF; omega, h5, ⟨by omega, by omega, by omega, by omega⟩, h7⟩
/-- The elder block again. -/
theorem RdQ.back {T7 p' : Nat} {t7 : TypeId} {cs7 : Array Value} (h : RdQ F b all B5 B6 X1 X2 T t p cs w) (ho : Only (fun k => k = b ∨ k = T7) w w') (hne : T ≠ b ∧ T ≠ T7) (h' : RdQ F b all B5 B6 X1 X2 T7 t7 p' cs7 w') : RdQ F b all B5 B6 X1 X2 T t p' cs w' :=
  ⟨h'.1, h'.2.1, ho.heap h.2.2.1 (fun e => e.elim hne.1 hne.2), h.2.2.2.1, h.2.2.2.2.1, h.2.2.2.2.2.1, h'.2.2.2.2.2.2⟩
theorem RdQ.nb (h : RdQ F b all B5 B6 X1 X2 T t p cs w) : T ≠ b := fun e => h.2.2.2.1 (by obtain ⟨⟨_, _, hb, _⟩, _⟩ := h; rw [e]; exact hb)
theorem RdQ.lt (h : RdQ F b all B5 B6 X1 X2 T t p cs w) : T < w.heap.size := (Array.getElem?_eq_some_iff.1 h.2.2.1).1
theorem RdQ.blt (h : RdQ F b all B5 B6 X1 X2 T t p cs w) : b < w.heap.size := by obtain ⟨⟨v, k1, _⟩, _⟩ := h; exact (Array.getElem?_eq_some_iff.1 k1).1
/-- A box that read one number, without a sign. -/
theorem step_box {e : Ending} (hq : StepQ rdUI F b all B5 B6 X1 X2 T t p [0] #[.int .i64 0] w e w') : (e = .returned (.bool false) ∧ rdNs rdUI 1 (all.drop p) = none ∧ ∃ p' cs', RdQ F b all B5 B6 X1 X2 T t p' cs' w') ∨
    (∃ (mk : Nat) (p' : Nat), e = .returned (.bool true) ∧ mk ≤ 9223372036854775807 ∧ rdNs rdUI 1 (all.drop p) = some ([(mk : Int)], all.drop p') ∧ RdQ F b all B5 B6 X1 X2 T t p' #[.int .i64 (mk : Int)] w') := by
  obtain ⟨_, hm⟩ := hq
  cases hg : rdNs rdUI 1 (all.drop p) with
  | none =>
    rw [show ([0] : List Nat).length = 1 from rfl, hg] at hm
    obtain ⟨e1, p', cs', _, h⟩ := hm
    exact .inl ⟨e1, rfl, p', cs', h⟩
  | some y =>
    obtain ⟨ns, rest⟩ := y
    rw [show ([0] : List Nat).length = 1 from rfl, hg] at hm
    obtain ⟨e1, p', rfl, h⟩ := hm
    have h1 : rdUI (all.drop p) = some (ns.headD 0, all.drop p') ∧ ns = [ns.headD 0] := by
      rw [rdNs] at hg
      simp only [rdNs] at hg
      cases hu : rdUI (all.drop p) with
      | none => rw [hu] at hg; simp at hg
      | some z =>
        obtain ⟨n, r⟩ := z
        rw [hu] at hg
        simp at hg
        obtain ⟨rfl, h2⟩ := hg
        exact ⟨by rw [h2]; rfl, rfl⟩
    cases hu : rdU (all.drop p) with
    | none => simp [rdUI, hu] at h1
    | some z =>
      obtain ⟨m, r⟩ := z
      simp [rdUI, hu] at h1
      have hb := (rdU_inv hu).2
      refine .inr ⟨m, p', e1, hb, ?_, ?_⟩
      · rw [h1.2, ← h1.1.1]
      · rw [h1.2, ← h1.1.1] at h
        exact h
theorem ptrs_block {g : Nat} {ca : Array Value} {ty : TypeId} {os : List Nat} (h : w.heap[g]? = some (.cells ca ty (0, 0))) (hc : ca = (ptrs T os).toArray) (hl : os.length ≤ maxLen) : Rd w (fun k => k = g) (.slice (some ⟨g, 0, none⟩) os.length os.length) (ptrs T os) := by
  refine ⟨_, _, _, rfl, by simp [ptrs], Nat.le_refl _, hl, fun _ => ⟨g, 0, rfl, rfl, fun j u hj => ?_⟩⟩
  subst hc
  simp only [Nat.zero_add, World.cell?, h]
  simpa using hj
theorem call_u (h : RdQ F b all B5 B6 X1 X2 T t p cs w) (os : List Nat) (ca : Array Value) (hca : ca = (ptrs T os).toArray) (n : Nat) (hn : n = os.length) (hl : os.length ≤ 100) (hos : ∀ o ∈ os, o < cs.size) :
    Calls Tryz.prog 108 #[.slice (some ⟨w.heap.size, 0, none⟩) n n, .pointer (some ⟨X1, 0, none⟩)] (w.alloc (.cells ca 134)) (StepQ rdUI F b all B5 B6 X1 X2 T t p os cs w) := by
  subst hn
  have hb := one_box w (.cells ca 134)
  have h' := h.below hb
  obtain ⟨h1, h2, h3, h4, h5, h6, _⟩ := h'
  have hbl : b < w.heap.size := by obtain ⟨⟨v, k1, _⟩, _⟩ := h; exact (Array.getElem?_eq_some_iff.1 k1).1
  have hTl : T < w.heap.size := by obtain ⟨_, _, k1, _⟩ := h; exact (Array.getElem?_eq_some_iff.1 k1).1
  exact (into_u _ F (fun k => k = w.heap.size) b X1 T all p _ _ _ os cs t h1 h2.2.2.1 ⟨h5.2.2.1, h6.2.2.1⟩ (ptrs_block (heap_alloc_new _ _) hca (by simp [maxLen]; omega)) (fun k hk => ⟨by omega, by omega⟩) h3 hos h4).mono (fun e w' hq => (h.below hb).step hb hq)
theorem call_i (h : RdQ F b all B5 B6 X1 X2 T t p cs w) (os : List Nat) (ca : Array Value) (hca : ca = (ptrs T os).toArray) (n : Nat) (hn : n = os.length) (hl : os.length ≤ 100) (hos : ∀ o ∈ os, o < cs.size) :
    Calls Tryz.prog 108 #[.slice (some ⟨w.heap.size, 0, none⟩) n n, .pointer (some ⟨X2, 0, none⟩)] (w.alloc (.cells ca 134)) (StepQ rdI F b all B5 B6 X1 X2 T t p os cs w) := by
  subst hn
  have hb := one_box w (.cells ca 134)
  have h' := h.below hb
  obtain ⟨h1, h2, h3, h4, h5, h6, _⟩ := h'
  have hbl : b < w.heap.size := by obtain ⟨⟨v, k1, _⟩, _⟩ := h; exact (Array.getElem?_eq_some_iff.1 k1).1
  have hTl : T < w.heap.size := by obtain ⟨_, _, k1, _⟩ := h; exact (Array.getElem?_eq_some_iff.1 k1).1
  exact (into_i _ F (fun k => k = w.heap.size) b X2 T all p _ _ _ os cs t h1 h2.2.2.2 ⟨h5.2.2.2, h6.2.2.2⟩ (ptrs_block (heap_alloc_new _ _) hca (by simp [maxLen]; omega)) (fun k hk => ⟨by omega, by omega⟩) h3 hos h4).mono (fun e w' hq => (h.below hb).step hb hq)
end
/-- What reading one thing into cells of a block comes to. -/
def OneQ {α : Type} (rd : List UInt8 → Option (α × List UInt8)) (put : α → Array Value → Array Value) (F : Nat → Prop) (b : Nat) (all : List UInt8) (B5 B6 X1 X2 T : Nat) (t : TypeId) (p : Nat) (cs : Array Value) (w : World) (e : Ending) (w' : World) : Prop :=
  Only (fun k => k = b ∨ k = T) w w' ∧ match rd (all.drop p) with
    | some (x, rest) => e = .returned (.bool true) ∧ ∃ p', rest = all.drop p' ∧ RdQ F b all B5 B6 X1 X2 T t p' (put x cs) w'
    | none => e = .returned (.bool false) ∧ ∃ p' cs', cs'.size = cs.size ∧ RdQ F b all B5 B6 X1 X2 T t p' cs' w'

/-- One op is read. -/
def rdOp (bs : List UInt8) : Option (POp × List UInt8) :=
  match rdNs rdUI 3 bs with
  | some ([d, a, b], r) => match rdNs rdI 1 r with
    | some ([c], r2) => match rdNs rdUI 1 r2 with
      | some ([n], r3) => some (⟨d, a, b, c, n⟩, r3)
      | _ => none
    | _ => none
  | _ => none
def putOp (m : Nat) (o : POp) (cs : Array Value) : Array Value := setMany cs [m, m + 1, m + 2, m + 3, m + 4] [o.d, o.a, o.b, o.c, o.n]
theorem three {l : List Int} (h : l.length = 3) : ∃ a b c, l = [a, b, c] := by
  match l, h with
  | [a, b, c], _ => exact ⟨a, b, c, rfl⟩
theorem one1 {l : List Int} (h : l.length = 1) : ∃ a, l = [a] := by
  match l, h with
  | [a], _ => exact ⟨a, rfl⟩
theorem two2 {l : List Int} (h : l.length = 2) : ∃ a b, l = [a, b] := by
  match l, h with
  | [a, b], _ => exact ⟨a, b, rfl⟩

set_option maxRecDepth 100000 in
set_option maxHeartbeats 4000000 in
theorem one_op (F : Nat → Prop) (b : Nat) (all : List UInt8) (B5 B6 X1 X2 T : Nat) (t : TypeId) (p0 m : Nat) (cs : Array Value) (w : World) (h : RdQ F b all B5 B6 X1 X2 T t p0 cs w) (hm : m + 5 ≤ cs.size) :
    Calls Tryz.prog 85 #[.pointer (some ⟨T, m, none⟩), .pointer (some ⟨B5, 0, none⟩), .pointer (some ⟨B6, 0, none⟩)] w (OneQ rdOp (putOp m) F b all B5 B6 X1 X2 T t p0 cs w) := by
  obtain ⟨N0, hN0⟩ : ∃ N, cs.size = N := ⟨_, rfl⟩
  have HSZ := Lib.hid hN0.symm
  have hsz0 : cs.size = N0 := hN0
  rw [hN0] at hm
  clear hN0
  have HQ0 := Lib.hid (h.below (Below.refl w.heap.size w).drew)
  have HON0 := Lib.hid ((Only.refl (fun k => k = b ∨ k = T) w).drew)
  go_enter Tryz.func85, Tryz.ntmps85
  go_upto_region 1 with fail
  refine wp_region_held_drew (S := (fun w' => w'.cell? ⟨B5, 0, none⟩ = some (.func (.func 108) #[] #[.pointer (some ⟨X1, 0, none⟩)]) ∧ w'.cell? ⟨B6, 0, none⟩ = some (.func (.func 108) #[] #[.pointer (some ⟨X2, 0, none⟩)]))) (by kernel_rfl) ⟨(((Below.refl _ _).drew).cell (p := ⟨B5, 0, none⟩) (World.block_lt_of_cell? _ _ h.2.1.1)).trans h.2.1.1, (((Below.refl _ _).drew).cell (p := ⟨B6, 0, none⟩) (World.block_lt_of_cell? _ _ h.2.1.2.1)).trans h.2.1.2.1⟩ (fun hHeld => ?_)
  refine take_lit (i := 0) (v := ?_) rfl (by kernel_rfl) (by kernel_rfl) (by kernel_rfl) (fun _ _ _ h => h) (by rfl) (fun wS hSw => ?_) hHeld ?_
  rotate_left
  · obtain ⟨s0, s1⟩ := hSw; go_simp; try with_reducible rfl
  try simp only [Act.put, List.setIfInBounds_toArray, List.set_cons_zero, List.set_cons_succ]
  refine take_lit (i := 1) (v := ?_) rfl (by kernel_rfl) (by kernel_rfl) (by kernel_rfl) (fun _ _ _ h => h) (by rfl) (fun wS hSw => ?_) hHeld ?_
  rotate_left
  · obtain ⟨s0, s1⟩ := hSw; go_simp; try with_reducible rfl
  try simp only [Act.put, List.setIfInBounds_toArray, List.set_cons_zero, List.set_cons_succ]
  refine take_lit (i := 2) (v := ?_) rfl (by kernel_rfl) (by kernel_rfl) (by kernel_rfl) (fun _ _ _ h => h) (by rfl) (fun wS hSw => ?_) hHeld ?_
  rotate_left
  · obtain ⟨s0, s1⟩ := hSw; go_simp; try with_reducible rfl
  try simp only [Act.put, List.setIfInBounds_toArray, List.set_cons_zero, List.set_cons_succ]
  refine take_lit (i := 3) (v := ?_) rfl (by kernel_rfl) (by kernel_rfl) (by kernel_rfl) (fun _ _ _ h => h) (by rfl) (fun wS hSw => ?_) hHeld ?_
  rotate_left
  · obtain ⟨s0, s1⟩ := hSw; go_simp; try with_reducible rfl
  try simp only [Act.put, List.setIfInBounds_toArray, List.set_cons_zero, List.set_cons_succ]
  refine take_lit (i := 4) (v := ?_) rfl (by kernel_rfl) (by kernel_rfl) (by kernel_rfl) (fun _ _ _ h => h) (by rfl) (fun wS hSw => ?_) hHeld ?_
  rotate_left
  · obtain ⟨s0, s1⟩ := hSw; go_simp; try with_reducible rfl
  try simp only [Act.put, List.setIfInBounds_toArray, List.set_cons_zero, List.set_cons_succ]
  refine take_lit (i := 5) (v := ?_) rfl (by kernel_rfl) (by kernel_rfl) (by kernel_rfl) (fun _ _ _ h => h) (by rfl) (fun wS hSw => ?_) hHeld ?_
  rotate_left
  · obtain ⟨s0, s1⟩ := hSw; go_simp; try with_reducible rfl
  try simp only [Act.put, List.setIfInBounds_toArray, List.set_cons_zero, List.set_cons_succ]
  refine take_lit (i := 6) (v := ?_) rfl (by kernel_rfl) (by kernel_rfl) (by kernel_rfl) (fun _ _ _ h => h) (by rfl) (fun wS hSw => ?_) hHeld ?_
  rotate_left
  · obtain ⟨s0, s1⟩ := hSw; go_simp; try with_reducible rfl
  try simp only [Act.put, List.setIfInBounds_toArray, List.set_cons_zero, List.set_cons_succ]
  refine take_lit (i := 7) (v := ?_) rfl (by kernel_rfl) (by kernel_rfl) (by kernel_rfl) (fun _ _ _ h => h) (by rfl) (fun wS hSw => ?_) hHeld ?_
  rotate_left
  · obtain ⟨s0, s1⟩ := hSw; go_simp; try with_reducible rfl
  try simp only [Act.put, List.setIfInBounds_toArray, List.set_cons_zero, List.set_cons_succ]
  refine take_lit (i := 8) (v := ?_) rfl (by kernel_rfl) (by kernel_rfl) (by kernel_rfl) (fun _ _ _ h => h) (by rfl) (fun wS hSw => ?_) hHeld ?_
  rotate_left
  · obtain ⟨s0, s1⟩ := hSw; go_simp; try with_reducible rfl
  try simp only [Act.put, List.setIfInBounds_toArray, List.set_cons_zero, List.set_cons_succ]
  refine take_lit (i := 9) (v := ?_) rfl (by kernel_rfl) (by kernel_rfl) (by kernel_rfl) (fun _ _ _ h => h) (by rfl) (fun wS hSw => ?_) hHeld ?_
  rotate_left
  · obtain ⟨s0, s1⟩ := hSw; go_simp; try with_reducible rfl
  try simp only [Act.put, List.setIfInBounds_toArray, List.set_cons_zero, List.set_cons_succ]
  refine wpAnyH_ready (rs := [10]) (by kernel_rfl) (by simp) (cons_lit (i := 10) rfl (fun K hK => ?_) AllReadyH.nil)
  go_simp
  refine hK.out _ _ (⟨cell_alloc_any hHeld.1 _, cell_alloc_any hHeld.2 _⟩) (fun hHeld2 => ?_)
  clear hK K hHeld
  have hHeld := hHeld2
  clear hHeld2
  try simp only [Act.put, List.setIfInBounds_toArray, List.set_cons_zero, List.set_cons_succ]
  refine wpAnyH_ready (rs := [11]) (by kernel_rfl) (by simp) (cons_lit (i := 11) rfl (fun K hK => ?_) AllReadyH.nil)
  go_simp
  refine (call_u HQ0.out [m, m + 1, m + 2] _ rfl _ rfl (by simp) (by intro o ho; simp at ho; have := hsz0; omega)).mono ?_
  rintro e wn ⟨hon, hm⟩
  have HON1 := Lib.hid (HON0.out.trans hon (fun _ _ h => h))
  clear hon
  cases hg0 : rdNs rdUI 3 (all.drop p0) with
  | none =>
    rw [show ([m, m + 1, m + 2] : List Nat).length = 3 from rfl, hg0] at hm
    obtain ⟨rfl, pN, csN, hsN, hqN⟩ := hm
    have HQ1 := Lib.hid hqN
    have HGN := Lib.hid (And.intro hg0 hsN)
    clear hqN hsN hg0
    try go_simp
    refine hK.out _ _ (⟨HQ1.out.2.1.1, HQ1.out.2.1.2.1⟩) (fun hHeld2 => ?_)
    clear hK K hHeld 
    have hHeld := hHeld2
    clear hHeld2
    try simp only [Act.put, List.setIfInBounds_toArray, List.set_cons_zero, List.set_cons_succ]
    refine take_lit (i := 12) (v := ?_) rfl (by kernel_rfl) (by kernel_rfl) (by kernel_rfl) (fun _ _ _ h => h) (by rfl) (fun wS hSw => ?_) hHeld ?_
    rotate_left
    · obtain ⟨s0, s1⟩ := hSw; go_simp; try with_reducible rfl
    try simp only [Act.put, List.setIfInBounds_toArray, List.set_cons_zero, List.set_cons_succ]
    refine take_no (i := 13) rfl (by kernel_rfl) (by kernel_rfl) (by kernel_rfl) (fun _ _ _ h => h) (by rfl) hHeld ?_
    try simp only [Act.put, List.setIfInBounds_toArray, List.set_cons_zero, List.set_cons_succ]
    refine take_no (i := 14) rfl (by kernel_rfl) (by kernel_rfl) (by kernel_rfl) (fun _ _ _ h => h) (by rfl) hHeld ?_
    try simp only [Act.put, List.setIfInBounds_toArray, List.set_cons_zero, List.set_cons_succ]
    refine take_no (i := 15) rfl (by kernel_rfl) (by kernel_rfl) (by kernel_rfl) (fun _ _ _ h => h) (by rfl) hHeld ?_
    try simp only [Act.put, List.setIfInBounds_toArray, List.set_cons_zero, List.set_cons_succ]
    refine take_no (i := 16) rfl (by kernel_rfl) (by kernel_rfl) (by kernel_rfl) (fun _ _ _ h => h) (by rfl) hHeld ?_
    try simp only [Act.put, List.setIfInBounds_toArray, List.set_cons_zero, List.set_cons_succ]
    refine take_no (i := 17) rfl (by kernel_rfl) (by kernel_rfl) (by kernel_rfl) (fun _ _ _ h => h) (by rfl) hHeld ?_
    try simp only [Act.put, List.setIfInBounds_toArray, List.set_cons_zero, List.set_cons_succ]
    refine take_no (i := 18) rfl (by kernel_rfl) (by kernel_rfl) (by kernel_rfl) (fun _ _ _ h => h) (by rfl) hHeld ?_
    try simp only [Act.put, List.setIfInBounds_toArray, List.set_cons_zero, List.set_cons_succ]
    refine take_lit (i := 19) (v := ?_) rfl (by kernel_rfl) (by kernel_rfl) (by kernel_rfl) (fun _ _ _ h => h) (by rfl) (fun wS hSw => ?_) hHeld ?_
    rotate_left
    · obtain ⟨s0, s1⟩ := hSw; go_simp; try with_reducible rfl
    try simp only [Act.put, List.setIfInBounds_toArray, List.set_cons_zero, List.set_cons_succ]
    refine take_lit (i := 20) (v := ?_) rfl (by kernel_rfl) (by kernel_rfl) (by kernel_rfl) (fun _ _ _ h => h) (by rfl) (fun wS hSw => ?_) hHeld ?_
    rotate_left
    · obtain ⟨s0, s1⟩ := hSw; go_simp; try with_reducible rfl
    try simp only [Act.put, List.setIfInBounds_toArray, List.set_cons_zero, List.set_cons_succ]
    refine take_no (i := 21) rfl (by kernel_rfl) (by kernel_rfl) (by kernel_rfl) (fun _ _ _ h => h) (by rfl) hHeld ?_
    try simp only [Act.put, List.setIfInBounds_toArray, List.set_cons_zero, List.set_cons_succ]
    refine take_no (i := 22) rfl (by kernel_rfl) (by kernel_rfl) (by kernel_rfl) (fun _ _ _ h => h) (by rfl) hHeld ?_
    try simp only [Act.put, List.setIfInBounds_toArray, List.set_cons_zero, List.set_cons_succ]
    refine take_no (i := 23) rfl (by kernel_rfl) (by kernel_rfl) (by kernel_rfl) (fun _ _ _ h => h) (by rfl) hHeld ?_
    try simp only [Act.put, List.setIfInBounds_toArray, List.set_cons_zero, List.set_cons_succ]
    refine take_no (i := 24) rfl (by kernel_rfl) (by kernel_rfl) (by kernel_rfl) (fun _ _ _ h => h) (by rfl) hHeld ?_
    try simp only [Act.put, List.setIfInBounds_toArray, List.set_cons_zero, List.set_cons_succ]
    refine take_no (i := 25) rfl (by kernel_rfl) (by kernel_rfl) (by kernel_rfl) (fun _ _ _ h => h) (by rfl) hHeld ?_
    try simp only [Act.put, List.setIfInBounds_toArray, List.set_cons_zero, List.set_cons_succ]
    refine take_no (i := 26) rfl (by kernel_rfl) (by kernel_rfl) (by kernel_rfl) (fun _ _ _ h => h) (by rfl) hHeld ?_
    try simp only [Act.put, List.setIfInBounds_toArray, List.set_cons_zero, List.set_cons_succ]
    refine take_lit (i := 27) (v := ?_) rfl (by kernel_rfl) (by kernel_rfl) (by kernel_rfl) (fun _ _ _ h => h) (by rfl) (fun wS hSw => ?_) hHeld ?_
    rotate_left
    · obtain ⟨s0, s1⟩ := hSw; go_simp; try with_reducible rfl
    try simp only [Act.put, List.setIfInBounds_toArray, List.set_cons_zero, List.set_cons_succ]
    refine take_lit (i := 28) (v := ?_) rfl (by kernel_rfl) (by kernel_rfl) (by kernel_rfl) (fun _ _ _ h => h) (by rfl) (fun wS hSw => ?_) hHeld ?_
    rotate_left
    · obtain ⟨s0, s1⟩ := hSw; go_simp; try with_reducible rfl
    try simp only [Act.put, List.setIfInBounds_toArray, List.set_cons_zero, List.set_cons_succ]
    refine wpAnyH_done (by kernel_rfl) ?_ _
    go_wp2_with fail
    go_ret
    have hno : rdOp (all.drop p0) = none := by simp only [rdOp, HGN.out.1]
    refine ⟨HON1.out, ?_⟩
    rw [hno]
    exact ⟨rfl, pN, csN, HGN.out.2.trans (hsz0.trans HSZ.out), HQ1.out⟩
  | some y =>
    obtain ⟨ns, rest⟩ := y
    rw [show ([m, m + 1, m + 2] : List Nat).length = 3 from rfl, hg0] at hm
    obtain ⟨rfl, p1, rfl, hq1⟩ := hm
    obtain ⟨d, a, bb, rfl⟩ := three (rdNs_len hg0)
    have hsz1 : (setMany cs [m, m + 1, m + 2] [d, a, bb]).size = N0 := by rw [setMany_size]; exact hsz0
    have HQ1 := Lib.hid hq1
    have HG0 := Lib.hid hg0
    clear hq1 hg0
    try go_simp
    refine hK.out _ _ (⟨HQ1.out.2.1.1, HQ1.out.2.1.2.1⟩) (fun hHeld2 => ?_)
    clear hK K hHeld 
    have hHeld := hHeld2
    clear hHeld2
    try simp only [Act.put, List.setIfInBounds_toArray, List.set_cons_zero, List.set_cons_succ]
    refine take_lit (i := 12) (v := ?_) rfl (by kernel_rfl) (by kernel_rfl) (by kernel_rfl) (fun _ _ _ h => h) (by rfl) (fun wS hSw => ?_) hHeld ?_
    rotate_left
    · obtain ⟨s0, s1⟩ := hSw; go_simp; try with_reducible rfl
    try simp only [Act.put, List.setIfInBounds_toArray, List.set_cons_zero, List.set_cons_succ]
    refine take_lit (i := 13) (v := ?_) rfl (by kernel_rfl) (by kernel_rfl) (by kernel_rfl) (fun _ _ _ h => h) (by rfl) (fun wS hSw => ?_) hHeld ?_
    rotate_left
    · obtain ⟨s0, s1⟩ := hSw; go_simp; try with_reducible rfl
    try simp only [Act.put, List.setIfInBounds_toArray, List.set_cons_zero, List.set_cons_succ]
    refine take_lit (i := 14) (v := ?_) rfl (by kernel_rfl) (by kernel_rfl) (by kernel_rfl) (fun _ _ _ h => h) (by rfl) (fun wS hSw => ?_) hHeld ?_
    rotate_left
    · obtain ⟨s0, s1⟩ := hSw; go_simp; try with_reducible rfl
    try simp only [Act.put, List.setIfInBounds_toArray, List.set_cons_zero, List.set_cons_succ]
    refine take_lit (i := 15) (v := ?_) rfl (by kernel_rfl) (by kernel_rfl) (by kernel_rfl) (fun _ _ _ h => h) (by rfl) (fun wS hSw => ?_) hHeld ?_
    rotate_left
    · obtain ⟨s0, s1⟩ := hSw; go_simp; try with_reducible rfl
    try simp only [Act.put, List.setIfInBounds_toArray, List.set_cons_zero, List.set_cons_succ]
    refine take_lit (i := 16) (v := ?_) rfl (by kernel_rfl) (by kernel_rfl) (by kernel_rfl) (fun _ _ _ h => h) (by rfl) (fun wS hSw => ?_) hHeld ?_
    rotate_left
    · obtain ⟨s0, s1⟩ := hSw; go_simp; try with_reducible rfl
    try simp only [Act.put, List.setIfInBounds_toArray, List.set_cons_zero, List.set_cons_succ]
    refine wpAnyH_ready (rs := [17]) (by kernel_rfl) (by simp) (cons_lit (i := 17) rfl (fun K hK => ?_) AllReadyH.nil)
    go_simp
    refine hK.out _ _ (⟨cell_alloc_any hHeld.1 _, cell_alloc_any hHeld.2 _⟩) (fun hHeld2 => ?_)
    clear hK K hHeld
    have hHeld := hHeld2
    clear hHeld2
    try simp only [Act.put, List.setIfInBounds_toArray, List.set_cons_zero, List.set_cons_succ]
    refine wpAnyH_ready (rs := [18]) (by kernel_rfl) (by simp) (cons_lit (i := 18) rfl (fun K hK => ?_) AllReadyH.nil)
    go_simp
    refine (call_i HQ1.out [m + 3] _ rfl _ rfl (by simp) (by intro o ho; simp at ho; have := hsz1; omega)).mono ?_
    rintro e wn ⟨hon, hm⟩
    have HON2 := Lib.hid (HON1.out.trans hon (fun _ _ h => h))
    clear hon
    cases hg1 : rdNs rdI 1 (all.drop p1) with
    | none =>
      rw [show ([m + 3] : List Nat).length = 1 from rfl, hg1] at hm
      obtain ⟨rfl, pN, csN, hsN, hqN⟩ := hm
      have HQ2 := Lib.hid hqN
      have HGN := Lib.hid (And.intro hg1 hsN)
      clear hqN hsN hg1
      try go_simp
      refine hK.out _ _ (⟨HQ2.out.2.1.1, HQ2.out.2.1.2.1⟩) (fun hHeld2 => ?_)
      clear hK K hHeld 
      have hHeld := hHeld2
      clear hHeld2
      try simp only [Act.put, List.setIfInBounds_toArray, List.set_cons_zero, List.set_cons_succ]
      refine take_lit (i := 19) (v := ?_) rfl (by kernel_rfl) (by kernel_rfl) (by kernel_rfl) (fun _ _ _ h => h) (by rfl) (fun wS hSw => ?_) hHeld ?_
      rotate_left
      · obtain ⟨s0, s1⟩ := hSw; go_simp; try with_reducible rfl
      try simp only [Act.put, List.setIfInBounds_toArray, List.set_cons_zero, List.set_cons_succ]
      refine take_lit (i := 20) (v := ?_) rfl (by kernel_rfl) (by kernel_rfl) (by kernel_rfl) (fun _ _ _ h => h) (by rfl) (fun wS hSw => ?_) hHeld ?_
      rotate_left
      · obtain ⟨s0, s1⟩ := hSw; go_simp; try with_reducible rfl
      try simp only [Act.put, List.setIfInBounds_toArray, List.set_cons_zero, List.set_cons_succ]
      refine take_no (i := 21) rfl (by kernel_rfl) (by kernel_rfl) (by kernel_rfl) (fun _ _ _ h => h) (by rfl) hHeld ?_
      try simp only [Act.put, List.setIfInBounds_toArray, List.set_cons_zero, List.set_cons_succ]
      refine take_no (i := 22) rfl (by kernel_rfl) (by kernel_rfl) (by kernel_rfl) (fun _ _ _ h => h) (by rfl) hHeld ?_
      try simp only [Act.put, List.setIfInBounds_toArray, List.set_cons_zero, List.set_cons_succ]
      refine take_no (i := 23) rfl (by kernel_rfl) (by kernel_rfl) (by kernel_rfl) (fun _ _ _ h => h) (by rfl) hHeld ?_
      try simp only [Act.put, List.setIfInBounds_toArray, List.set_cons_zero, List.set_cons_succ]
      refine take_no (i := 24) rfl (by kernel_rfl) (by kernel_rfl) (by kernel_rfl) (fun _ _ _ h => h) (by rfl) hHeld ?_
      try simp only [Act.put, List.setIfInBounds_toArray, List.set_cons_zero, List.set_cons_succ]
      refine take_no (i := 25) rfl (by kernel_rfl) (by kernel_rfl) (by kernel_rfl) (fun _ _ _ h => h) (by rfl) hHeld ?_
      try simp only [Act.put, List.setIfInBounds_toArray, List.set_cons_zero, List.set_cons_succ]
      refine take_no (i := 26) rfl (by kernel_rfl) (by kernel_rfl) (by kernel_rfl) (fun _ _ _ h => h) (by rfl) hHeld ?_
      try simp only [Act.put, List.setIfInBounds_toArray, List.set_cons_zero, List.set_cons_succ]
      refine take_lit (i := 27) (v := ?_) rfl (by kernel_rfl) (by kernel_rfl) (by kernel_rfl) (fun _ _ _ h => h) (by rfl) (fun wS hSw => ?_) hHeld ?_
      rotate_left
      · obtain ⟨s0, s1⟩ := hSw; go_simp; try with_reducible rfl
      try simp only [Act.put, List.setIfInBounds_toArray, List.set_cons_zero, List.set_cons_succ]
      refine take_lit (i := 28) (v := ?_) rfl (by kernel_rfl) (by kernel_rfl) (by kernel_rfl) (fun _ _ _ h => h) (by rfl) (fun wS hSw => ?_) hHeld ?_
      rotate_left
      · obtain ⟨s0, s1⟩ := hSw; go_simp; try with_reducible rfl
      try simp only [Act.put, List.setIfInBounds_toArray, List.set_cons_zero, List.set_cons_succ]
      refine wpAnyH_done (by kernel_rfl) ?_ _
      go_wp2_with fail
      go_ret
      have hno : rdOp (all.drop p0) = none := by simp only [rdOp, HG0.out, HGN.out.1]
      refine ⟨HON2.out, ?_⟩
      rw [hno]
      exact ⟨rfl, pN, csN, HGN.out.2.trans (hsz1.trans HSZ.out), HQ2.out⟩
    | some y =>
      obtain ⟨ns, rest⟩ := y
      rw [show ([m + 3] : List Nat).length = 1 from rfl, hg1] at hm
      obtain ⟨rfl, p2, rfl, hq2⟩ := hm
      obtain ⟨c, rfl⟩ := one1 (rdNs_len hg1)
      have hsz2 : (setMany (setMany cs [m, m + 1, m + 2] [d, a, bb]) [m + 3] [c]).size = N0 := by rw [setMany_size]; exact hsz1
      have HQ2 := Lib.hid hq2
      have HG1 := Lib.hid hg1
      clear hq2 hg1
      try go_simp
      refine hK.out _ _ (⟨HQ2.out.2.1.1, HQ2.out.2.1.2.1⟩) (fun hHeld2 => ?_)
      clear hK K hHeld 
      have hHeld := hHeld2
      clear hHeld2
      try simp only [Act.put, List.setIfInBounds_toArray, List.set_cons_zero, List.set_cons_succ]
      refine take_lit (i := 19) (v := ?_) rfl (by kernel_rfl) (by kernel_rfl) (by kernel_rfl) (fun _ _ _ h => h) (by rfl) (fun wS hSw => ?_) hHeld ?_
      rotate_left
      · obtain ⟨s0, s1⟩ := hSw; go_simp; try with_reducible rfl
      try simp only [Act.put, List.setIfInBounds_toArray, List.set_cons_zero, List.set_cons_succ]
      refine take_lit (i := 20) (v := ?_) rfl (by kernel_rfl) (by kernel_rfl) (by kernel_rfl) (fun _ _ _ h => h) (by rfl) (fun wS hSw => ?_) hHeld ?_
      rotate_left
      · obtain ⟨s0, s1⟩ := hSw; go_simp; try with_reducible rfl
      try simp only [Act.put, List.setIfInBounds_toArray, List.set_cons_zero, List.set_cons_succ]
      refine take_lit (i := 21) (v := ?_) rfl (by kernel_rfl) (by kernel_rfl) (by kernel_rfl) (fun _ _ _ h => h) (by rfl) (fun wS hSw => ?_) hHeld ?_
      rotate_left
      · obtain ⟨s0, s1⟩ := hSw; go_simp; try with_reducible rfl
      try simp only [Act.put, List.setIfInBounds_toArray, List.set_cons_zero, List.set_cons_succ]
      refine take_lit (i := 22) (v := ?_) rfl (by kernel_rfl) (by kernel_rfl) (by kernel_rfl) (fun _ _ _ h => h) (by rfl) (fun wS hSw => ?_) hHeld ?_
      rotate_left
      · obtain ⟨s0, s1⟩ := hSw; go_simp; try with_reducible rfl
      try simp only [Act.put, List.setIfInBounds_toArray, List.set_cons_zero, List.set_cons_succ]
      refine take_lit (i := 23) (v := ?_) rfl (by kernel_rfl) (by kernel_rfl) (by kernel_rfl) (fun _ _ _ h => h) (by rfl) (fun wS hSw => ?_) hHeld ?_
      rotate_left
      · obtain ⟨s0, s1⟩ := hSw; go_simp; try with_reducible rfl
      try simp only [Act.put, List.setIfInBounds_toArray, List.set_cons_zero, List.set_cons_succ]
      refine take_lit (i := 24) (v := ?_) rfl (by kernel_rfl) (by kernel_rfl) (by kernel_rfl) (fun _ _ _ h => h) (by rfl) (fun wS hSw => ?_) hHeld ?_
      rotate_left
      · obtain ⟨s0, s1⟩ := hSw; go_simp; try with_reducible rfl
      try simp only [Act.put, List.setIfInBounds_toArray, List.set_cons_zero, List.set_cons_succ]
      refine wpAnyH_ready (rs := [25]) (by kernel_rfl) (by simp) (cons_lit (i := 25) rfl (fun K hK => ?_) AllReadyH.nil)
      go_simp
      refine hK.out _ _ (⟨cell_alloc_any hHeld.1 _, cell_alloc_any hHeld.2 _⟩) (fun hHeld2 => ?_)
      clear hK K hHeld
      have hHeld := hHeld2
      clear hHeld2
      try simp only [Act.put, List.setIfInBounds_toArray, List.set_cons_zero, List.set_cons_succ]
      refine wpAnyH_ready (rs := [26]) (by kernel_rfl) (by simp) (cons_lit (i := 26) rfl (fun K hK => ?_) AllReadyH.nil)
      go_simp
      refine (call_u HQ2.out [m + 4] _ rfl _ rfl (by simp) (by intro o ho; simp at ho; have := hsz2; omega)).mono ?_
      rintro e wn ⟨hon, hm⟩
      have HON3 := Lib.hid (HON2.out.trans hon (fun _ _ h => h))
      clear hon
      cases hg2 : rdNs rdUI 1 (all.drop p2) with
      | none =>
        rw [show ([m + 4] : List Nat).length = 1 from rfl, hg2] at hm
        obtain ⟨rfl, pN, csN, hsN, hqN⟩ := hm
        have HQ3 := Lib.hid hqN
        have HGN := Lib.hid (And.intro hg2 hsN)
        clear hqN hsN hg2
        try go_simp
        refine hK.out _ _ (⟨HQ3.out.2.1.1, HQ3.out.2.1.2.1⟩) (fun hHeld2 => ?_)
        clear hK K hHeld 
        have hHeld := hHeld2
        clear hHeld2
        try simp only [Act.put, List.setIfInBounds_toArray, List.set_cons_zero, List.set_cons_succ]
        refine take_lit (i := 27) (v := ?_) rfl (by kernel_rfl) (by kernel_rfl) (by kernel_rfl) (fun _ _ _ h => h) (by rfl) (fun wS hSw => ?_) hHeld ?_
        rotate_left
        · obtain ⟨s0, s1⟩ := hSw; go_simp; try with_reducible rfl
        try simp only [Act.put, List.setIfInBounds_toArray, List.set_cons_zero, List.set_cons_succ]
        refine take_lit (i := 28) (v := ?_) rfl (by kernel_rfl) (by kernel_rfl) (by kernel_rfl) (fun _ _ _ h => h) (by rfl) (fun wS hSw => ?_) hHeld ?_
        rotate_left
        · obtain ⟨s0, s1⟩ := hSw; go_simp; try with_reducible rfl
        try simp only [Act.put, List.setIfInBounds_toArray, List.set_cons_zero, List.set_cons_succ]
        refine wpAnyH_done (by kernel_rfl) ?_ _
        go_wp2_with fail
        go_ret
        have hno : rdOp (all.drop p0) = none := by simp only [rdOp, HG0.out, HG1.out, HGN.out.1]
        refine ⟨HON3.out, ?_⟩
        rw [hno]
        exact ⟨rfl, pN, csN, HGN.out.2.trans (hsz2.trans HSZ.out), HQ3.out⟩
      | some y =>
        obtain ⟨ns, rest⟩ := y
        rw [show ([m + 4] : List Nat).length = 1 from rfl, hg2] at hm
        obtain ⟨rfl, p3, rfl, hq3⟩ := hm
        obtain ⟨n, rfl⟩ := one1 (rdNs_len hg2)
        have hsz3 : (setMany (setMany (setMany cs [m, m + 1, m + 2] [d, a, bb]) [m + 3] [c]) [m + 4] [n]).size = N0 := by rw [setMany_size]; exact hsz2
        have HQ3 := Lib.hid hq3
        have HG2 := Lib.hid hg2
        clear hq3 hg2
        try go_simp
        refine hK.out _ _ (⟨HQ3.out.2.1.1, HQ3.out.2.1.2.1⟩) (fun hHeld2 => ?_)
        clear hK K hHeld 
        have hHeld := hHeld2
        clear hHeld2
        try simp only [Act.put, List.setIfInBounds_toArray, List.set_cons_zero, List.set_cons_succ]
        refine take_lit (i := 27) (v := ?_) rfl (by kernel_rfl) (by kernel_rfl) (by kernel_rfl) (fun _ _ _ h => h) (by rfl) (fun wS hSw => ?_) hHeld ?_
        rotate_left
        · obtain ⟨s0, s1⟩ := hSw; go_simp; try with_reducible rfl
        try simp only [Act.put, List.setIfInBounds_toArray, List.set_cons_zero, List.set_cons_succ]
        refine take_lit (i := 28) (v := ?_) rfl (by kernel_rfl) (by kernel_rfl) (by kernel_rfl) (fun _ _ _ h => h) (by rfl) (fun wS hSw => ?_) hHeld ?_
        rotate_left
        · obtain ⟨s0, s1⟩ := hSw; go_simp; try with_reducible rfl
        try simp only [Act.put, List.setIfInBounds_toArray, List.set_cons_zero, List.set_cons_succ]
        refine wpAnyH_done (by kernel_rfl) ?_ _
        go_wp2_with fail
        go_ret
        have hyes : rdOp (all.drop p0) = some (⟨d, a, bb, c, n⟩, all.drop p3) := by simp only [rdOp, HG0.out, HG1.out, HG2.out]
        refine ⟨HON3.out, ?_⟩
        rw [hyes]
        exact ⟨rfl, p3, rfl, HQ3.out⟩

/-- A number is put. -/
def putN (m : Nat) (n : Int) (cs : Array Value) : Array Value := setMany cs [m] [n]
theorem rdI_one (bs : List UInt8) : rdNs rdI 1 bs = (rdI bs).map fun x => ([x.1], x.2) := by
  rw [rdNs]
  simp only [rdNs]
  cases rdI bs with
  | none => rfl
  | some x => rfl
set_option maxRecDepth 100000 in
set_option maxHeartbeats 1000000 in
theorem one_num (F : Nat → Prop) (b : Nat) (all : List UInt8) (B5 B6 X1 X2 T : Nat) (t : TypeId) (p0 m : Nat) (cs : Array Value) (w : World) (h : RdQ F b all B5 B6 X1 X2 T t p0 cs w) (hm : m + 1 ≤ cs.size) :
    Calls Tryz.prog 87 #[.pointer (some ⟨T, m, none⟩), .pointer (some ⟨B6, 0, none⟩)] w (OneQ rdI (putN m) F b all B5 B6 X1 X2 T t p0 cs w) := by
  have HQ := Lib.hid h
  have c6 := h.2.1.2.1
  have hc := call_i h [m] _ rfl 1 rfl (by simp) (by intro o ho; simp at ho; omega)
  have HC := Lib.hid hc
  clear h hc
  go_enter Tryz.func87, Tryz.ntmps87
  go_wp2_with fail
  refine HC.out.mono ?_
  rintro e w2 ⟨ho, hq⟩
  rw [show ([m] : List Nat).length = 1 from rfl, rdI_one] at hq
  cases hg : rdI (all.drop p0) with
  | none =>
    rw [hg] at hq
    obtain ⟨rfl, hx⟩ := hq
    have HX := Lib.hid (And.intro ho (And.intro hx hg))
    clear ho hx hg
    go_wp2_with fail
    go_ret
    refine ⟨HX.out.1, ?_⟩
    rw [HX.out.2.2]
    exact ⟨rfl, HX.out.2.1⟩
  | some y =>
    obtain ⟨n, rest⟩ := y
    rw [hg] at hq
    obtain ⟨rfl, hx⟩ := hq
    have HX := Lib.hid (And.intro ho (And.intro hx hg))
    clear ho hx hg
    go_wp2_with fail
    go_ret
    refine ⟨HX.out.1, ?_⟩
    rw [HX.out.2.2]
    exact ⟨rfl, HX.out.2.1⟩
end Go.Proofs.YtihjcfifakcpgaaGreatDoor
