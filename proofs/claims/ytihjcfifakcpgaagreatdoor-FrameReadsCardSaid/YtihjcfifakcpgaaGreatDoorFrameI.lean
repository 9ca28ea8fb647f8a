/- frame.into and what it hands back: numbers that are read, one behind the other, into cells of one block. -/
import Derived.Test.YtihjcfifakcpgaaGreatDoorFld
import Derived.Test.YtihjcfifakcpgaaGreatDoorEqs
namespace Go.Proofs.YtihjcfifakcpgaaGreatDoor
set_option maxRecDepth 100000
open Go.RowKit

def rdUI (bs : List UInt8) : Option (Int × List UInt8) := (rdU bs).map fun x => ((x.1 : Int), x.2)
/-- So many numbers are read. -/
def rdNs (rd : List UInt8 → Option (Int × List UInt8)) : Nat → List UInt8 → Option (List Int × List UInt8)
  | 0, bs => some ([], bs)
  | k + 1, bs => match rdNs rd k bs with
    | some (ns, r) => match rd r with
      | some (n, r') => some (ns ++ [n], r')
      | none => none
    | none => none
theorem rdNs_len {rd : List UInt8 → Option (Int × List UInt8)} : ∀ {k : Nat} {bs : List UInt8} {ns : List Int} {r : List UInt8}, rdNs rd k bs = some (ns, r) → ns.length = k
  | 0, bs, ns, r, h => by simp [rdNs] at h; rw [h.1]; rfl
  | k + 1, bs, ns, r, h => by
    rw [rdNs] at h
    cases hk : rdNs rd k bs with
    | none => rw [hk] at h; simp at h
    | some x =>
      obtain ⟨ms, q⟩ := x
      rw [hk] at h
      simp only at h
      cases hq : rd q with
      | none => rw [hq] at h; simp at h
      | some y =>
        obtain ⟨n, q'⟩ := y
        rw [hq] at h
        simp at h
        rw [← h.1, List.length_append, rdNs_len hk]
        rfl
theorem rdNs_none {rd : List UInt8 → Option (Int × List UInt8)} {k : Nat} {bs : List UInt8} (h : rdNs rd k bs = none) : ∀ m, rdNs rd (k + m) bs = none
  | 0 => h
  | m + 1 => by rw [← Nat.add_assoc, rdNs, rdNs_none h m]
/-- Cells of a block that are turned into numbers. -/
def setMany (cs : Array Value) (os : List Nat) (ns : List Int) : Array Value := (os.zip ns).foldl (fun c x => c.setIfInBounds x.1 (.int .i64 x.2)) cs
theorem setMany_size (os : List Nat) : ∀ (ns : List Int) (cs : Array Value), (setMany cs os ns).size = cs.size := by
  induction os with
  | nil => intro ns cs; simp [setMany]
  | cons o os ih =>
    intro ns cs
    cases ns with
    | nil => simp [setMany]
    | cons n ns =>
      have := ih ns (cs.setIfInBounds o (.int .i64 n))
      unfold setMany at this ⊢
      simp only [List.zip_cons_cons, List.foldl_cons]
      rw [this]
      simp
theorem setMany_snoc {os : List Nat} {k o : Nat} (ho : os[k]? = some o) {ns : List Int} (hl : ns.length = k) (cs : Array Value) (n : Int) : setMany cs (os.take (k + 1)) (ns ++ [n]) = (setMany cs (os.take k) ns).setIfInBounds o (.int .i64 n) := by
  have h1 : os.take (k + 1) = os.take k ++ [o] := by rw [List.take_add_one, ho]; rfl
  have h2 : (os.take k).length = ns.length := by
    have := (List.getElem?_eq_some_iff.1 ho).1
    simp
    omega
  unfold setMany
  rw [h1, List.zip_append h2, List.foldl_append]
  rfl
/-- Addresses of cells of one block. -/
def ptrs (T : Nat) (os : List Nat) : List Value := os.map fun o => .pointer (some ⟨T, o, none⟩)
/-- What stands behind numbers that were read into a block. -/
def IntoP (rd : List UInt8 → Option (Int × List UInt8)) (F : Nat → Prop) (b : Nat) (all : List UInt8) (pos T : Nat) (os : List Nat) (cs : Array Value) (t : TypeId) (w : World) (e : Ending) (w' : World) : Prop :=
  Only (fun k => k = b ∨ k = T) w w' ∧ match rdNs rd os.length (all.drop pos) with
    | some (ns, rest) => e = .returned (.bool true) ∧ w'.heap[T]? = some (.cells (setMany cs os ns) t (0, 0)) ∧ ∃ p', rest = all.drop p' ∧ RdrAt w' F b all p'
    | none => e = .returned (.bool false) ∧ (∃ cs' : Array Value, cs'.size = cs.size ∧ w'.heap[T]? = some (.cells cs' t (0, 0))) ∧ ∃ p', RdrAt w' F b all p'
def IntoR (rd : List UInt8 → Option (Int × List UInt8)) (F : Nat → Prop) (b : Nat) (all : List UInt8) (pos T : Nat) (os : List Nat) (cs : Array Value) (t : TypeId) (w : World) (k : Nat) (w' : World) : Prop :=
  Only (fun k => k = b ∨ k = T) w w' ∧ ∃ ns p', rdNs rd k (all.drop pos) = some (ns, all.drop p') ∧ w'.heap[T]? = some (.cells (setMany cs (os.take k) ns) t (0, 0)) ∧ RdrAt w' F b all p'
theorem into_next {rd : List UInt8 → Option (Int × List UInt8)} {F : Nat → Prop} {b : Nat} {all : List UInt8} {pos T : Nat} {os : List Nat} {cs : Array Value} {t : TypeId} {w wr w2 : World} {k o p p' : Nat} {ns : List Int} {n : Int} (hT : ¬ F T)
    (h1 : Only (fun k => k = b ∨ k = T) w wr) (h2 : rdNs rd k (all.drop pos) = some (ns, all.drop p)) (h3 : wr.heap[T]? = some (.cells (setMany cs (os.take k) ns) t (0, 0))) (ho : os[k]? = some o)
    (h4 : Only (fun k => k = b) wr w2) (h5 : rd (all.drop p) = some (n, all.drop p')) (h6 : RdrAt w2 F b all p') (hb : b ≠ T) :
    IntoR rd F b all pos T os cs t w (k + 1) (w2.setCell ⟨T, o, none⟩ (.int .i64 n)) := by
  have h7 : w2.heap[T]? = some (.cells (setMany cs (os.take k) ns) t (0, 0)) := h4.heap h3 (fun e => hb e.symm)
  refine ⟨(h1.trans h4 (fun _ _ h => .inl h)).setCell (p := ⟨T, o, none⟩) (fun _ => .inr rfl) _, ns ++ [n], p', ?_, ?_, h6.only (Only.set1 w2 T o _) (fun k hk e => hT (e ▸ hk))⟩
  · rw [rdNs, h2]
    simp only
    rw [h5]
  · rw [setMany_snoc ho (rdNs_len h2)]
    simp [World.setCell, Array.getElem?_modify, h7]

set_option maxRecDepth 100000 in
set_option maxHeartbeats 1000000 in
theorem into_u (w : World) (F G : Nat → Prop) (b X T : Nat) (all : List UInt8) (pos : Nat) (A : Option Addr) (n c : Nat) (os : List Nat) (cs : Array Value) (t : TypeId) (h : RdrAt w F b all pos)
    (hX : w.cell? ⟨X, 0, none⟩ = some (.func (.func 82) #[.pointer (some ⟨b, 0, none⟩)] #[])) (hXb : X ≠ b ∧ X ≠ T) (hv : Rd w G (.slice A n c) (ptrs T os)) (hG : ∀ k, G k → k ≠ b ∧ k ≠ T)
    (hT : w.heap[T]? = some (.cells cs t (0, 0))) (hos : ∀ o ∈ os, o < cs.size) (hF : ¬ F T) :
    Calls Tryz.prog 108 #[.slice A n c, .pointer (some ⟨X, 0, none⟩)] w (IntoP rdUI F b all pos T os cs t w) := by
  have hbT : b ≠ T := fun e => hF (e ▸ (let ⟨_, _, hb, _⟩ := h; hb))
  obtain ⟨A', n', c', hv', hl, hnc, hcm, hx⟩ := hv
  injection hv' with e1 e2 e3
  subst e1 e2 e3
  simp [ptrs] at hl
  subst hl
  unfold maxLen at hcm
  have HX := Lib.hid (And.intro hx (And.intro hG (And.intro hos (And.intro hF (And.intro hX (And.intro hXb hbT))))))
  have HS := Lib.hid (show IntoR rdUI F b all pos T os cs t w 0 w from ⟨Only.refl _ _, [], pos, rfl, by simpa [setMany] using hT, h⟩)
  clear hx hG hos hF h hX hXb hbT hT
  go_enter Tryz.func108, Tryz.ntmps108
  go_wp2_with fail
  go_loopw [10] (fun i wr => ∃ k : Nat, k ≤ os.length ∧ i = .int .i64 (k : Int) ∧ IntoR rdUI F b all pos T os cs t w k wr) (fun i _ => os.length - (intOf i).toNat)
  case atStart => exact ⟨0, Nat.zero_le _, rfl, HS.out⟩
  case round =>
    obtain ⟨k, hk, rfl, ho, ns, p, hns, hTb, hrd⟩ := hrel
    by_cases hlt : k < os.length
    · obtain ⟨x, hx⟩ : ∃ x, os[k]? = some x := ⟨_, List.getElem?_eq_getElem hlt⟩
      obtain ⟨ba, oa, rfl, hGb, cx⟩ := HX.out.1 (by omega)
      have dx := ho.cell (p := ⟨ba, oa + k, none⟩) (cx k (.pointer (some ⟨T, x, none⟩)) (by simp [ptrs, hx])) (fun e => e.elim (HX.out.2.1 _ hGb).1 (HX.out.2.1 _ hGb).2)
      have dX := ho.cell (p := ⟨X, 0, none⟩) HX.out.2.2.2.2.1 (fun e => e.elim HX.out.2.2.2.2.2.1.1 HX.out.2.2.2.2.2.1.2)
      have hxs := HX.out.2.2.1 x (List.mem_of_getElem? hx)
      have HU := Lib.hid (Uint_ok wr F b all p hrd)
      have HR := Lib.hid (And.intro ho (And.intro hns (And.intro hTb hx)))
      clear ho hns hTb hx hrd cx hGb
      go_wp2_with fail
      refine HU.out.mono ?_
      rintro e w2 ⟨ho2, hm⟩
      have hTb2 : w2.heap[T]? = some (.cells (setMany cs (os.take k) ns) t (0, 0)) := ho2.heap HR.out.2.2.1 (fun e => HX.out.2.2.2.2.2.2 e.symm)
      have hzz : x < (setMany cs (os.take k) ns).size := by rw [setMany_size]; exact hxs
      have hcc : ∃ v0, w2.cell? ⟨T, x, none⟩ = some v0 := ⟨(setMany cs (os.take k) ns)[x], by simp [World.cell?, hTb2, hzz]⟩
      obtain ⟨v0, hc0⟩ := hcc
      have hff : w2.frozen? ⟨T, x, none⟩ = false := by simp [World.frozen?, hTb2]
      have HT2 := Lib.hid (And.intro hTb2 ho2)
      clear hTb2 ho2 hzz
      cases hg : rdU (all.drop p) with
      | none =>
        rw [hg] at hm
        obtain ⟨⟨ec, hec, rfl⟩, hr⟩ := hm
        have hne : (ec != 0) = true := by rcases hec with rfl | rfl <;> rfl
        have HG := Lib.hid (And.intro (show rdUI (all.drop p) = none by simp [rdUI, hg]) hr)
        clear hg hr hec
        go_wp2_with fail
        go_ret
        refine ⟨HR.out.1.trans HT2.out.2 (fun _ _ h => .inl h), ?_⟩
        have h9 : rdNs rdUI os.length (all.drop pos) = none := by
          have h8 : rdNs rdUI (k + 1) (all.drop pos) = none := by rw [rdNs, HR.out.2.1]; simp only; rw [HG.out.1]
          have := rdNs_none h8 (os.length - (k + 1))
          rwa [show k + 1 + (os.length - (k + 1)) = os.length by omega] at this
        rw [h9]
        exact ⟨rfl, ⟨_, by rw [setMany_size], HT2.out.1⟩, p, HG.out.2⟩
      | some y =>
        obtain ⟨m, rest⟩ := y
        rw [hg] at hm
        obtain ⟨rfl, p', hrest, _, hr⟩ := hm
        have HG := Lib.hid (And.intro (show rdUI (all.drop p) = some ((m : Int), all.drop p') by simp [rdUI, hg, hrest]) hr)
        clear hg hr hrest
        go_wp2_with fail
        go_roundw
        case rel =>
          exact ⟨k + 1, by omega, by go_num, into_next HX.out.2.2.2.1 HR.out.1 HR.out.2.1 HR.out.2.2.1 HR.out.2.2.2 HT2.out.2 HG.out.1 HG.out.2 HX.out.2.2.2.2.2.2⟩
        case measure => simp [intOf]; omega
    · obtain rfl : k = os.length := by omega
      have HR := Lib.hid (And.intro ho (And.intro hns (And.intro hTb hrd)))
      clear ho hns hTb hrd
      go_wp2_with fail
      go_ret
      refine ⟨HR.out.1, ?_⟩
      rw [HR.out.2.1]
      refine ⟨rfl, ?_, p, rfl, HR.out.2.2.2⟩
      have := HR.out.2.2.1
      rw [List.take_length] at this
      exact this

set_option maxRecDepth 100000 in
set_option maxHeartbeats 1000000 in
theorem into_i (w : World) (F G : Nat → Prop) (b X T : Nat) (all : List UInt8) (pos : Nat) (A : Option Addr) (n c : Nat) (os : List Nat) (cs : Array Value) (t : TypeId) (h : RdrAt w F b all pos)
    (hX : w.cell? ⟨X, 0, none⟩ = some (.func (.func 83) #[.pointer (some ⟨b, 0, none⟩)] #[])) (hXb : X ≠ b ∧ X ≠ T) (hv : Rd w G (.slice A n c) (ptrs T os)) (hG : ∀ k, G k → k ≠ b ∧ k ≠ T)
    (hT : w.heap[T]? = some (.cells cs t (0, 0))) (hos : ∀ o ∈ os, o < cs.size) (hF : ¬ F T) :
    Calls Tryz.prog 108 #[.slice A n c, .pointer (some ⟨X, 0, none⟩)] w (IntoP rdI F b all pos T os cs t w) := by
  have hbT : b ≠ T := fun e => hF (e ▸ (let ⟨_, _, hb, _⟩ := h; hb))
  obtain ⟨A', n', c', hv', hl, hnc, hcm, hx⟩ := hv
  injection hv' with e1 e2 e3
  subst e1 e2 e3
  simp [ptrs] at hl
  subst hl
  unfold maxLen at hcm
  have HX := Lib.hid (And.intro hx (And.intro hG (And.intro hos (And.intro hF (And.intro hX (And.intro hXb hbT))))))
  have HS := Lib.hid (show IntoR rdI F b all pos T os cs t w 0 w from ⟨Only.refl _ _, [], pos, rfl, by simpa [setMany] using hT, h⟩)
  clear hx hG hos hF h hX hXb hbT hT
  go_enter Tryz.func108, Tryz.ntmps108
  go_wp2_with fail
  go_loopw [10] (fun i wr => ∃ k : Nat, k ≤ os.length ∧ i = .int .i64 (k : Int) ∧ IntoR rdI F b all pos T os cs t w k wr) (fun i _ => os.length - (intOf i).toNat)
  case atStart => exact ⟨0, Nat.zero_le _, rfl, HS.out⟩
  case round =>
    obtain ⟨k, hk, rfl, ho, ns, p, hns, hTb, hrd⟩ := hrel
    by_cases hlt : k < os.length
    · obtain ⟨x, hx⟩ : ∃ x, os[k]? = some x := ⟨_, List.getElem?_eq_getElem hlt⟩
      obtain ⟨ba, oa, rfl, hGb, cx⟩ := HX.out.1 (by omega)
      have dx := ho.cell (p := ⟨ba, oa + k, none⟩) (cx k (.pointer (some ⟨T, x, none⟩)) (by simp [ptrs, hx])) (fun e => e.elim (HX.out.2.1 _ hGb).1 (HX.out.2.1 _ hGb).2)
      have dX := ho.cell (p := ⟨X, 0, none⟩) HX.out.2.2.2.2.1 (fun e => e.elim HX.out.2.2.2.2.2.1.1 HX.out.2.2.2.2.2.1.2)
      have hxs := HX.out.2.2.1 x (List.mem_of_getElem? hx)
      have HU := Lib.hid (Int_ok wr F b all p hrd)
      have HR := Lib.hid (And.intro ho (And.intro hns (And.intro hTb hx)))
      clear ho hns hTb hx hrd cx hGb
      go_wp2_with fail
      refine HU.out.mono ?_
      rintro e w2 ⟨ho2, hm⟩
      have hTb2 : w2.heap[T]? = some (.cells (setMany cs (os.take k) ns) t (0, 0)) := ho2.heap HR.out.2.2.1 (fun e => HX.out.2.2.2.2.2.2 e.symm)
      have hzz : x < (setMany cs (os.take k) ns).size := by rw [setMany_size]; exact hxs
      have hcc : ∃ v0, w2.cell? ⟨T, x, none⟩ = some v0 := ⟨(setMany cs (os.take k) ns)[x], by simp [World.cell?, hTb2, hzz]⟩
      obtain ⟨v0, hc0⟩ := hcc
      have hff : w2.frozen? ⟨T, x, none⟩ = false := by simp [World.frozen?, hTb2]
      have HT2 := Lib.hid (And.intro hTb2 ho2)
      clear hTb2 ho2 hzz
      cases hg : rdI (all.drop p) with
      | none =>
        rw [hg] at hm
        obtain ⟨rfl, hr⟩ := hm
        have HG := Lib.hid (And.intro hg hr)
        clear hg hr
        go_wp2_with fail
        go_ret
        refine ⟨HR.out.1.trans HT2.out.2 (fun _ _ h => .inl h), ?_⟩
        have h9 : rdNs rdI os.length (all.drop pos) = none := by
          have h8 : rdNs rdI (k + 1) (all.drop pos) = none := by rw [rdNs, HR.out.2.1]; simp only; rw [HG.out.1]
          have := rdNs_none h8 (os.length - (k + 1))
          rwa [show k + 1 + (os.length - (k + 1)) = os.length by omega] at this
        rw [h9]
        exact ⟨rfl, ⟨_, by rw [setMany_size], HT2.out.1⟩, p, HG.out.2⟩
      | some y =>
        obtain ⟨m, rest⟩ := y
        rw [hg] at hm
        obtain ⟨rfl, p', hrest, _, hr⟩ := hm
        have HG := Lib.hid (And.intro (show rdI (all.drop p) = some (m, all.drop p') by rw [hg, hrest]) hr)
        clear hg hr hrest
        go_wp2_with fail
        go_roundw
        case rel =>
          exact ⟨k + 1, by omega, by go_num, into_next HX.out.2.2.2.1 HR.out.1 HR.out.2.1 HR.out.2.2.1 HR.out.2.2.2 HT2.out.2 HG.out.1 HG.out.2 HX.out.2.2.2.2.2.2⟩
        case measure => simp [intOf]; omega
    · obtain rfl : k = os.length := by omega
      have HR := Lib.hid (And.intro ho (And.intro hns (And.intro hTb hrd)))
      clear ho hns hTb hrd
      go_wp2_with fail
      go_ret
      refine ⟨HR.out.1, ?_⟩
      rw [HR.out.2.1]
      refine ⟨rfl, ?_, p, rfl, HR.out.2.2.2⟩
      have := HR.out.2.2.1
      rw [List.take_length] at this
      exact this

theorem into_make (w : World) (k : Fn) (a b : Array Value) : Calls Tryz.prog 81 #[.func k a b] w fun e w' => e = .returned (.func (.func 108) #[] #[.pointer (some ⟨w.heap.size, 0, none⟩)]) ∧ w' = w.alloc (.cells #[.func k a b] 133) := by
  go_enter Tryz.func81, Tryz.ntmps81
  go_wp2_with fail
  go_ret
  exact ⟨rfl, rfl⟩
end Go.Proofs.YtihjcfifakcpgaaGreatDoor
