import Derived.Test.YtagemonojdgbdaaGreatDoorC14
import Derived.Test.YtagemonojdgbdaaGreatDoorC16
namespace Go.Proofs.YtagemonojdgbdaaGreatDoor
set_option maxRecDepth 100000
open Go.RowKit
theorem fresh_rd {l : List Cl} {w' : World} {base : Nat} {A : Option Addr} {c : Nat} (h : w'.ownsRow base 48 5 (.slice A l.length c) l.length (l.map Cl.cells).flatten) : ClRd w' (fun _ => True) (.slice A l.length c) l :=
 RdK.of_own h (cl_len _) (by decide) (fun _ _ => trivial)
def NewV (l : List Cl) (w : World) (v : Value) (n : Int) (w' : World) : Prop :=
 Below w.heap.size w w' ∧ ((errOf l ≠ 0 ∧ v = .slice none 0 0 ∧ n = errOf l) ∨ (errOf l = 0 ∧ ∃ out, IsForm l out ∧ ((64 < out.length ∧ v = .slice none 0 0 ∧ n = 23) ∨
  (out.length ≤ 64 ∧ n = 0 ∧ ∃ A c, v = .slice A out.length c ∧ w'.ownsRow w.heap.size 48 5 (.slice A out.length c) out.length (out.map Cl.cells).flatten))))
theorem NewP.named {l : List Cl} {w w' : World} {e : Ending} (h : NewP l w e w') : ∃ v n, e = .returned (.tuple #[.agg #[v], .int .i64 n]) ∧ NewV l w v n w' := by
 obtain ⟨hb, ⟨h1, rfl⟩ | ⟨h1, out, h2, ⟨h3, rfl⟩ | ⟨h3, A, c, rfl, h4⟩⟩⟩ := h
 ·exact ⟨_, _, rfl, hb, .inl ⟨h1, rfl, rfl⟩⟩
 ·exact ⟨_, _, rfl, hb, .inr ⟨h1, out, h2, .inl ⟨h3, rfl, rfl⟩⟩⟩
 ·exact ⟨_, _, rfl, hb, .inr ⟨h1, out, h2, .inr ⟨h3, rfl, A, c, rfl, h4⟩⟩⟩
def Good (l : List Cl) : Prop := ∀ c ∈ l, Ok c ∧ c.fits
theorem isForm_nil : IsForm [] [] := ⟨⟨[], fun _ => [], fun _ => [], rfl, List.Pairwise.nil, fun i _ _ => ⟨⟨fun x hx => by simp at hx, List.Pairwise.nil⟩, ⟨fun x hx => by simp at hx, List.Pairwise.nil⟩, fun n h => absurd h (inS_nil n)⟩⟩, fun _ => rfl⟩
theorem IsForm.unique {l a b : List Cl} (h : IsForm l a) (h' : IsForm l b) : a = b := form_unique h.1 h'.1 (fun t => (h.2 t).trans (h'.2 t).symm)
def dedupK : List (List UInt8) → List (List UInt8)
 | [] => []
 | k :: l => if k ∈ l then dedupK l else k :: dedupK l
theorem mem_dedupK {k : List UInt8} : ∀ {l : List (List UInt8)}, k ∈ dedupK l ↔ k ∈ l
 | [] => Iff.rfl
 | a :: l => by
  unfold dedupK
  split
  ·rename_i h
   rw [mem_dedupK, List.mem_cons]
   constructor
   ·exact .inr
   ·rintro (rfl | h')
    ·exact h
    ·exact h'
  ·rw [List.mem_cons, List.mem_cons, mem_dedupK]
theorem dedupK_nodup : ∀ (l : List (List UInt8)), (dedupK l).Nodup
 | [] => List.nodup_nil
 | a :: l => by
  unfold dedupK
  split
  ·exact dedupK_nodup l
  ·rename_i h
   exact List.nodup_cons.2 ⟨fun h' => h (mem_dedupK.1 h'), dedupK_nodup l⟩
def rowKeys (l : List Cl) : List (List UInt8) := dedupK ((l.filter fun c => c.col == -1).map Cl.key)
def sortLo (s : List (Int × Int)) : List (Int × Int) := s.mergeSort fun a b => decide (a.1 ≤ b.1)
theorem sortLo_perm (s : List (Int × Int)) : (sortLo s).Perm s := List.mergeSort_perm _ _
theorem sortLo_sorted (s : List (Int × Int)) : LoSorted (sortLo s) := by
 have := List.pairwise_mergeSort (le := fun a b : Int × Int => decide (a.1 ≤ b.1)) (fun a b c h h' => by simp at h h' ⊢; omega) (fun a b => by simp; omega) s
 exact this.imp (fun h => by simpa using h)
def normW (l : List Cl) (i : Int) : List (Int × Int) := joinS (sortLo (spansOf l i true))
def normR (l : List Cl) (i : Int) : List (Int × Int) := withoutS (joinS (sortLo (spansOf l i false))) (normW l i)
def normF (l : List Cl) : List Cl := ((rowKeys l).mergeSort fun x y => decide (x ≤ y)).map (rowCl fun key => lev l (-1, key, 0)) ++ cols (normW l) (normR l) 4
theorem normF_is {l : List Cl} (hl : ∀ c ∈ l, Ok c) : IsForm l (normF l) := by
 refine isForm_of hl (dedupK_nodup _) (fun k => ?_) rfl (fun i _ => colOk_of hl (sortLo_perm _) (sortLo_perm _) (sortLo_sorted _) (sortLo_sorted _))
 rw [mem_dedupK, List.mem_map]
 have hb := lev_bd l (-1, k, 0)
 constructor
 ·rintro ⟨c, hc, rfl⟩
  simp only [List.mem_filter, beq_iff_eq] at hc
  have h1 := (hl c hc.1).parts
  have : 1 ≤ lev l (-1, c.key, 0) := lev_pos.2 ⟨c, hc.1, hc.2, rfl, by show c.lo ≤ 0; omega, by show 0 ≤ c.hi; omega⟩
  omega
 ·intro h
  obtain ⟨c, hc, h1, h2, h3, h4⟩ := lev_pos.1 (show 1 ≤ lev l (-1, k, 0) by omega)
  exact ⟨c, by simp only [List.mem_filter, beq_iff_eq]; exact ⟨hc, h1⟩, h2⟩
theorem normF_unique {l out : List Cl} (hl : ∀ c ∈ l, Ok c) (h : IsForm l out) : out = normF l := h.unique (normF_is hl)
theorem normF_nil : normF [] = [] := (normF_unique (fun c hc => by simp at hc) isForm_nil).symm

end Go.Proofs.YtagemonojdgbdaaGreatDoor
