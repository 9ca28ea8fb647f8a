import Derived.Test.YtagemonojdgbdaaGreatDoorC06
import Derived.Deep.RegionHeld3
import Derived.Deep.RegionLaw
import Derived.Deep.DrawnRows
namespace Go.Proofs.YtagemonojdgbdaaGreatDoor
set_option maxRecDepth 100000
open Go.RowKit
theorem blk_append {w w1 w2 : World} {b : Nat} {o : Obj} {o1 : Obj} {row : Option Nat} (hc : w.heap[b]? = some o) (hb : Below w.heap.size w.drew w1) (hg : (w1.alloc o1).grownBy w2 row) (hne : row ≠ some b) : w2.heap[b]? = some o := by
 have hlt := (Array.getElem?_eq_some_iff.1 hc).1
 have h1 : w1.heap[b]? = some o := (hb.block b hlt).trans hc
 have hlt1 := (Array.getElem?_eq_some_iff.1 h1).1
 rw [hg.block b (by simp; omega) (Ne.symm hne), Below.heap_alloc _ _ _ hlt1, h1]
def AppendPost (b : Nat) (v : Value) (n : Nat) (vs xs : List Value) (w : World) (e : Ending) (w' : World) : Prop :=
 ∃ g cap Ax cx, e = .returned (.tuple #[.int .i64 n, .int .i64 0]) ∧ Only (fun k => k = b ∨ v.ownBlock = some k) w w' ∧ w'.heap[b]? = some (.cells #[.slice (some ⟨g, 0, none⟩) (n + 1) cap] 117 (0, 0)) ∧
  w'.ownsRow 0 118 1 (.slice (some ⟨g, 0, none⟩) (n + 1) cap) (n + 1) (vs ++ [.slice Ax xs.length cx]) ∧ w'.ownsRow w.heap.size 5 1 (.slice Ax xs.length cx) xs.length xs ∧
  (v.ownBlock = some g ∨ w.heap.size ≤ g)
theorem append_fin {b : Nat} {v : Value} {n : Nat} {vs xs : List Value} {w w1 w2 : World} {Ax : Option Addr} {cx gg cap : Nat} (hb : b < w.heap.size) (hv : ∀ g, v.ownBlock = some g → g < w.heap.size)
  (hx1 : w1.ownsRow w.heap.size 5 1 (.slice Ax xs.length cx) xs.length xs) (hbl1 : Below w.heap.size w.drew w1)
  (hown2 : w2.ownsRow 0 118 1 (.slice (some ⟨gg, 0, none⟩) (n + 1) cap) (n + 1) (vs ++ [.slice Ax xs.length cx]))
  (hgrow2 : (w1.alloc (Obj.cells #[.slice Ax xs.length cx] 118)).grownBy w2 v.ownBlock) (hat2 : v.ownBlock = some gg ∨ gg = w1.heap.size + 1)
  (hB2 : w2.heap[b]? = some (Obj.cells #[v] 117 (0, 0))) :
  AppendPost b v n vs xs w (.returned (.tuple #[.int .i64 n, .int .i64 0])) (w2.setCell ⟨b, 0, none⟩ (.slice (some ⟨gg, 0, none⟩) (n + 1) cap)) := by
 have hsz : w.heap.size ≤ w1.heap.size := hbl1.size
 refine ⟨gg, cap, Ax, cx, rfl, ?_, ?_, ?_, ?_, ?_⟩
 ·have h1 : Only (fun k => k = b ∨ v.ownBlock = some k) w w1 := Only.of_below (undrew hbl1) _
  exact ((h1.alloc _).grown hgrow2 (fun k hk _ => .inr hk)).setCell (p := ⟨b, 0, none⟩) (fun _ => .inl rfl) _
 ·simp [World.setCell, Array.getElem?_modify, hB2]
 ·refine own_only hown2 (Only.set1 _ _ _ _) ?_
  intro g hg e
  subst e
  exact own_blk_ne hown2 hB2 (by decide) hg
 ·have hl := hx1.lt
  have h3 : (w1.alloc (Obj.cells #[.slice Ax xs.length cx] 118)).ownsRow w.heap.size 5 1 (.slice Ax xs.length cx) xs.length xs := hx1.alloc _
  have h4 : w2.ownsRow w.heap.size 5 1 (.slice Ax xs.length cx) xs.length xs := h3.kept hgrow2 (by
   cases hA : (Value.slice Ax xs.length cx).ownBlock with
   | none => exact .inl rfl
   | some k =>
    refine .inr (fun e => ?_)
    have := (hl k hA).1
    have := hv k e.symm
    omega)
  refine own_only h4 (Only.set1 _ _ _ _) ?_
  intro g hg e
  subst e
  have := (hl g hg).1
  omega
 ·rcases hat2 with h | h
  ·exact .inl h
  ·exact .inr (by omega)
set_option maxHeartbeats 1000000 in
theorem append_raw (b : Nat) (A : Option Addr) (n c : Nat) (vs : List Value) (w : World) (hc : w.heap[b]? = some (.cells #[.slice A n c] 117 (0, 0)))
  (hown : w.ownsRow 0 118 1 (.slice A n c) n vs) (hn : n < 1024) (G : Nat → Prop) (A2 : Option Addr) (n2 c2 : Nat) (xs : List Value) (hr : Rd w G (.slice A2 n2 c2) xs) (h1 : ∀ u ∈ xs, u.oneCell' = true) (hx : n2 ≤ 8192) :
  Calls Tryz.prog 42 #[.pointer (some ⟨b, 0, none⟩), .slice A2 n2 c2] w (AppendPost b (.slice A n c) n vs xs w) := by
 obtain ⟨i0, hi, hz0, hz1, hz2⟩ := info_parts Tryz.info29
 have hl : xs.length ≤ 140737488355328 := by
  obtain ⟨A', n', c', hv, hl, _⟩ := hr
  injection hv with _ h2 _
  omega
 have HL := Lib.hid hl
 clear hl
 have hcell : w.cell? ⟨b, 0, none⟩ = some (.slice A n c) := by simp [World.cell?, hc]
 have hfz : w.frozen? ⟨b, 0, none⟩ = false := by simp [World.frozen?, hc]
 have hb := World.block_lt_of_cell? w _ hcell
 have hne : (Value.slice A n c).ownBlock ≠ some b := own_blk_ne hown hc (by decide)
 have HV := Lib.hid (fun g hg => (hown.lt g hg).2)
 have HC := Lib.hid hc
 have HO := Lib.hid hown
 have HN := Lib.hid hne
 clear hc hown hne
 go_enter Tryz.func42, Tryz.ntmps42
 go_wp2_with fail
 go_region_law
  (first
   | (refine step_append_lies _ (by rfl) _ _ _ (by rfl) 0 118 i0 _ 1 24 Tryz.underlying115 hi hz0 hz1 hz2 rfl (by omega) (.slice A n c) n vs (by rfl) (hown1.alloc _) ⟨w1.heap.size, 0, none⟩ 1 1 [.slice Ax xs.length cx] (by rfl) (by rfl) (World.news_of_block (cs := #[.slice Ax xs.length cx]) (t := 118) (fr := (0, 0)) (heap_alloc_new w1 _)) (by simp [Value.oneCell']) (by omega) (by simp only [maxLen]; omega) (by omega) (by omega) (w1.heap.size + 1) (by simp) ?_; intro gg cap w2 hown2 hgrow2 hat2 hlt2; have HB2 := Lib.hid (blk_append HC.out hbl1 hgrow2 HN.out); have hcell2 := blk_cell HB2.out; have hfz2 := blk_frozen HB2.out)
   | (go_simp; go_at_call 75; refine (clone_bytes _ xs G _ (by exact hr) h1 HL.out).mono ?_; rintro e w1 ⟨Ax, cx, rfl, hx1, hbl1⟩; have hcell1 : w1.cell? ⟨b, 0, none⟩ = some (.slice A n c) := (hbl1.cell (p := ⟨b, 0, none⟩) hb).trans hcell; have hcell1a : ∀ o, (w1.alloc o).cell? ⟨b, 0, none⟩ = some (.slice A n c) := cell_alloc_any hcell1; have hown1 := own_below HO.out.drew hbl1; have hsz1 : w.heap.size ≤ w1.heap.size := hbl1.size))
 all_goals
  go_wp2
  go_ret2
  exact append_fin hb HV.out hx1 hbl1 hown2 hgrow2 hat2 HB2.out
def LogAt (w : World) (F : Nat → Prop) (b : Nat) (ps : List (List UInt8)) : Prop :=
 ∃ (v : Value) (vs : List Value), w.heap[b]? = some (.cells #[v] 117 (0, 0)) ∧ F b ∧ w.ownsRow 0 118 1 v ps.length vs ∧ (∀ g, v.ownBlock = some g → F g) ∧
  ∀ (i : Nat) (p : List UInt8), ps[i]? = some p → ∃ x : Value, vs[i]? = some x ∧ w.ownsRow 0 5 1 x p.length (p.map B8) ∧ ∀ g, x.ownBlock = some g → F g
section
variable {w w' : World} {F G S : Nat → Prop} {b : Nat} {ps : List (List UInt8)} {v : Value}
theorem LogAt.only (h : LogAt w F b ps) (ho : Only S w w') (hd : ∀ k, F k → ¬ S k) : LogAt w' F b ps := by
 obtain ⟨v, vs, h1, h2, h3, h4, h6⟩ := h
 refine ⟨v, vs, ho.heap h1 (hd b h2), h2, own_only h3 ho (fun g hg => hd g (h4 g hg)), h4, fun i p hp => ?_⟩
 obtain ⟨x, hx, hr, hf⟩ := h6 i p hp
 exact ⟨x, hx, own_only hr ho (fun k hk => hd k (hf k hk)), hf⟩
theorem LogAt.below (h : LogAt w F b ps) (hb : Below w.heap.size w w') : LogAt w' F b ps := h.only (Only.of_below hb fun _ => False) (fun _ _ => id)
end
def AppendedP (F : Nat → Prop) (b : Nat) (ps : List (List UInt8)) (xs : List UInt8) (w : World) (e : Ending) (w' : World) : Prop :=
 e = .returned (.tuple #[.int .i64 ps.length, .int .i64 0]) ∧ Only F w w' ∧ ∃ F', LogAt w' F' b (ps ++ [xs]) ∧ ∀ k, F' k → F k ∨ w.heap.size ≤ k
theorem append_ok (w : World) (F : Nat → Prop) (b : Nat) (ps : List (List UInt8)) (h : LogAt w F b ps) (hn : ps.length < 1024) (G : Nat → Prop) (A2 : Option Addr) (n2 c2 : Nat) (xs : List UInt8) (hr : Rd w G (.slice A2 n2 c2) (xs.map B8)) (hx : xs.length ≤ 8192) :
  Calls Tryz.prog 42 #[.pointer (some ⟨b, 0, none⟩), .slice A2 n2 c2] w (AppendedP F b ps xs w) := by
 obtain ⟨v, vs, h1, h2, h3, h4, h6⟩ := h
 obtain ⟨A, c, rfl⟩ := ownsRow_slice h3
 have hn2 : n2 = xs.length := by
  obtain ⟨A', n', c', hv, hl, _⟩ := hr
  injection hv with _ e _
  simp at hl; omega
 refine (append_raw b A ps.length c vs w h1 h3 hn G A2 n2 c2 (xs.map B8) hr (B8_one xs) (by omega)).mono ?_
 rintro e w' ⟨g, cap, Ax, cx, he, ho, hb', hown', hx', hat⟩
 have hlv : vs.length = ps.length := by simpa using h3.1
 refine ⟨he, ho.mono (fun i _ hi => ?_), fun k => F k ∨ w.heap.size ≤ k, ⟨_, _, hb', .inl h2, by simpa using hown', ?_, ?_⟩, fun k hk => hk⟩
 ·rcases hi with rfl | hi
  ·exact h2
  ·exact h4 i hi
 ·intro k hk
  rcases hat with h | h
  ·exact .inl (h4 k (h.trans hk))
  ·injection hk with hk; subst hk; exact .inr h
 ·intro i p hp
  rw [List.getElem?_append] at hp ⊢
  split at hp
  ·rename_i hi
   obtain ⟨x, hx, hr2, hf⟩ := h6 i p hp
   refine ⟨x, by rw [if_pos (by omega)]; exact hx, own_only hr2 ho ?_, fun k hk => .inl (hf k hk)⟩
   intro k hk hor
   rcases hor with rfl | hor
   ·exact own_blk_ne hr2 h1 (by decide) hk
   ·exact own_own_ne hr2 h3 (by decide) hk hor
  ·rename_i hi
   have hi0 : i - ps.length = 0 := by
    have := (List.getElem?_eq_some_iff.1 hp).1
    simp at this; omega
   rw [hi0] at hp
   simp at hp
   subst hp
   refine ⟨.slice Ax (xs.map B8).length cx, by rw [if_neg (by omega), hlv, hi0]; simp, ?_, fun k hk => .inr (hx'.lt k hk).1⟩
   have := own_base hx' (base' := 0) (fun _ _ => Nat.zero_le _)
   simpa using this
theorem loglen_ok (w : World) (F : Nat → Prop) (b : Nat) (ps : List (List UInt8)) (h : LogAt w F b ps) :
  Calls Tryz.prog 27 #[.pointer (some ⟨b, 0, none⟩)] w fun e w' => e = .returned (.int .i64 ps.length) ∧ w = w' := by
 obtain ⟨v, vs, h1, _, h3, _⟩ := h
 obtain ⟨A, c, rfl⟩ := ownsRow_slice h3
 have hc := blk_cell h1
 clear h1 h3
 go_enter Tryz.func27, Tryz.ntmps27
 go_wp2_with fail
 go_ret
 exact ⟨rfl, rfl⟩
end Go.Proofs.YtagemonojdgbdaaGreatDoor
