/- Plain laws for FootParts: a claim that is parted; and an argument of three numbers, opened. -/
import Derived.Test.YtdmpdlpfanfjoaaFootFormP
import Derived.Test.YtdmpdlpfanfjoaaRefF
namespace Go.Proofs.Ytdmpdlpfanfjoaa
open Go.ChangeShapes Go.WideShapes Go.ChangeAt Go.RowKit Go.Deep

/-- The claims with one of them parted: its second part in its place, its first part last. -/
def partsL (l : List Cl) (k : Nat) (c : Cl) (x y : Int) : List Cl := l.take k ++ [{ c with lo := y }] ++ l.drop (k + 1) ++ [{ c with hi := x }]
theorem mem_at {l : List Cl} {k : Nat} {c d : Cl} (hc : l[k]? = some c) : d ∈ l ↔ d ∈ l.take k ∨ d = c ∨ d ∈ l.drop (k + 1) := by
  have hk := (List.getElem?_eq_some_iff.1 hc).1
  have hd : l.drop k = c :: l.drop (k + 1) := by
    rw [List.drop_eq_getElem_cons hk]
    congr 1
    exact (List.getElem?_eq_some_iff.1 hc).2
  have e : d ∈ l ↔ d ∈ l.take k ∨ d ∈ l.drop k := by rw [← List.mem_append, List.take_append_drop]
  rw [e, hd, List.mem_cons]
theorem mem_parts {l : List Cl} {k : Nat} {c d : Cl} {x y : Int} : d ∈ partsL l k c x y ↔ d ∈ l.take k ∨ d = { c with lo := y } ∨ d ∈ l.drop (k + 1) ∨ d = { c with hi := x } := by
  unfold partsL
  simp [List.mem_append]
theorem parts_has {c : Cl} {x y : Int} (h1 : c.lo ≤ y) (h2 : y ≤ x + 1) (h3 : x ≤ c.hi) (t : Thing) : c.has t ↔ ({ c with lo := y } : Cl).has t ∨ ({ c with hi := x } : Cl).has t := by
  unfold Cl.has
  simp only
  constructor
  · rintro ⟨a1, a2, a3, a4⟩
    by_cases h : y ≤ t.2.2
    · exact .inl ⟨a1, a2, h, a4⟩
    · exact .inr ⟨a1, a2, a3, by omega⟩
  · rintro (⟨a1, a2, a3, a4⟩ | ⟨a1, a2, a3, a4⟩)
    · exact ⟨a1, a2, by omega, a4⟩
    · exact ⟨a1, a2, a3, by omega⟩
theorem parts_lev {l : List Cl} {k : Nat} {c : Cl} (hc : l[k]? = some c) {x y : Int} (h1 : c.lo ≤ y) (h2 : y ≤ x + 1) (h3 : x ≤ c.hi) (t : Thing) : lev (partsL l k c x y) t = lev l t := by
  have hp := parts_has h1 h2 h3 t
  apply lev_eq
  · constructor
    · rintro ⟨d, hd, hh, hw⟩
      rcases mem_parts.1 hd with hd | rfl | hd | rfl
      · exact ⟨d, (mem_at hc).2 (.inl hd), hh, hw⟩
      · exact ⟨c, (mem_at hc).2 (.inr (.inl rfl)), hp.2 (.inl hh), hw⟩
      · exact ⟨d, (mem_at hc).2 (.inr (.inr hd)), hh, hw⟩
      · exact ⟨c, (mem_at hc).2 (.inr (.inl rfl)), hp.2 (.inr hh), hw⟩
    · rintro ⟨d, hd, hh, hw⟩
      rcases (mem_at hc).1 hd with hd | rfl | hd
      · exact ⟨d, mem_parts.2 (.inl hd), hh, hw⟩
      · rcases hp.1 hh with hh | hh
        · exact ⟨_, mem_parts.2 (.inr (.inl rfl)), hh, hw⟩
        · exact ⟨_, mem_parts.2 (.inr (.inr (.inr rfl))), hh, hw⟩
      · exact ⟨d, mem_parts.2 (.inr (.inr (.inl hd))), hh, hw⟩
  · constructor
    · rintro ⟨d, hd, hh⟩
      rcases mem_parts.1 hd with hd | rfl | hd | rfl
      · exact ⟨d, (mem_at hc).2 (.inl hd), hh⟩
      · exact ⟨c, (mem_at hc).2 (.inr (.inl rfl)), hp.2 (.inl hh)⟩
      · exact ⟨d, (mem_at hc).2 (.inr (.inr hd)), hh⟩
      · exact ⟨c, (mem_at hc).2 (.inr (.inl rfl)), hp.2 (.inr hh)⟩
    · rintro ⟨d, hd, hh⟩
      rcases (mem_at hc).1 hd with hd | rfl | hd
      · exact ⟨d, mem_parts.2 (.inl hd), hh⟩
      · rcases hp.1 hh with hh | hh
        · exact ⟨_, mem_parts.2 (.inr (.inl rfl)), hh⟩
        · exact ⟨_, mem_parts.2 (.inr (.inr (.inr rfl))), hh⟩
      · exact ⟨d, mem_parts.2 (.inr (.inr (.inl hd))), hh⟩
theorem parts_good {l : List Cl} {k : Nat} {c : Cl} (hc : l[k]? = some c) {x y : Int} (hg : Good l) (h0 : 0 ≤ c.col) (h1 : c.lo ≤ y) (h2 : y ≤ x + 1) (h3 : x < c.hi) (h4 : c.lo ≤ x) : Good (partsL l k c x y) := by
  have hcl : c ∈ l := List.mem_of_getElem? hc
  obtain ⟨ho, hf⟩ := hg c hcl
  have hp : 0 ≤ c.col ∧ c.col < 4 ∧ c.key = [] ∧ c.lo ≤ c.hi := by
    rcases ho.parts with h | h
    · omega
    · exact h
  obtain ⟨f1, f2, f3, f4⟩ := hf
  unfold I64 at f1 f2 f3
  intro d hd
  rcases mem_parts.1 hd with hd | rfl | hd | rfl
  · exact hg d ((mem_at hc).2 (.inl hd))
  · exact ⟨Ok.of (.inr ⟨hp.1, hp.2.1, hp.2.2.1, by show y ≤ c.hi; omega⟩), by
      refine ⟨?_, ?_, ?_, f4⟩ <;> (unfold I64; simp only; omega)⟩
  · exact hg d ((mem_at hc).2 (.inr (.inr hd)))
  · exact ⟨Ok.of (.inr ⟨hp.1, hp.2.1, hp.2.2.1, by show c.lo ≤ x; omega⟩), by
      refine ⟨?_, ?_, ?_, f4⟩ <;> (unfold I64; simp only; omega)⟩
theorem parts_len {l : List Cl} {k : Nat} {c : Cl} (hc : l[k]? = some c) {x y : Int} : (partsL l k c x y).length = l.length + 1 := by
  have hk := (List.getElem?_eq_some_iff.1 hc).1
  unfold partsL
  simp
  omega

theorem Try.cells3 : Try.prog.cellsOf 38 = 3 := by kernel_rfl
theorem okWide_array {P : Program} {w : World} {r : Reach} {base : Nat} {t e : TypeId} {n : Nat} {v : Value} (ht : P.underlying t = some (.array n e)) (h : Value.okWide P w r base t v) : ∃ cs, v = .agg cs ∧ cs.size = P.cellsOf t := by
  unfold Value.okWide at h
  simp only [ht] at h
  exact let ⟨cs, a, b, _⟩ := h; ⟨cs, a, b⟩
set_option maxRecDepth 100000 in
/-- An argument of three numbers, opened. -/
theorem open_three {H : Type} {enc : TypeId × Value → H} {W : World} {v : Value} {d : DataW H} {p : List MemPlace} {base : Nat} (hval : Value.okWide Try.prog W .any base 38 v)
    (h : DataW.Trod enc Try.prog W 0 (fun _ => true) true 38 v d p) : ∃ x0 x1 x2 : Int, v = .agg #[.int .i64 x0, .int .i64 x1, .int .i64 x2] ∧ I64 x0 ∧ I64 x1 ∧ I64 x2 := by
  obtain ⟨cs, rfl, hs⟩ := okWide_array Try.underlying38 hval
  rw [Try.cells3] at hs
  obtain ⟨fuel, hf⟩ := h
  obtain ⟨xs, m, _, _, hl, hx, hi⟩ := DataW.trod_array Try.underlying38 hf
  obtain ⟨cl⟩ := cs
  match cl, hs with
  | [c0, c1, c2], _ =>
    have key : ∀ i, i < 3 → ∃ n : Int, (([c0, c1, c2] : List Value)[i]?) = some (.int .i64 n) ∧ I64 n := by
      intro i hi3
      have hh := hi i hi3
      rw [Try.cellsI, List.getElem?_eq_getElem (by rw [hx]; exact hi3)] at hh
      have h1 : (List.take 1 (List.drop (i * 1) (Value.cells (.agg #[c0, c1, c2])).toList)) = [[c0, c1, c2][i]] := by
        have : i = 0 ∨ i = 1 ∨ i = 2 := by omega
        rcases this with rfl | rfl | rfl <;> rfl
      rw [h1] at hh
      obtain ⟨n, h2, _, h3⟩ := DataW.trod_int Try.underlying3 hh
      refine ⟨n, ?_, bounds_i64 h3⟩
      rw [List.getElem?_eq_getElem (by simpa using hi3)]
      simp at h2
      rw [h2]
    obtain ⟨n0, e0, b0⟩ := key 0 (by decide)
    obtain ⟨n1, e1, b1⟩ := key 1 (by decide)
    obtain ⟨n2, e2, b2⟩ := key 2 (by decide)
    simp at e0 e1 e2
    subst e0 e1 e2
    exact ⟨n0, n1, n2, rfl, b0, b1, b2⟩

/-- A block that holds some cells. -/
def Bx (w : World) (B : Nat) (cs : Array Value) (t : TypeId) : Prop := w.heap[B]? = some (.cells cs t (0, 0))
theorem Bx.below {w w' : World} {B : Nat} {cs : Array Value} {t : TypeId} (h : Bx w B cs t) (hb : Below w.heap.size w w') : Bx w' B cs t := by
  unfold Bx at *
  rw [hb.block _ (Array.getElem?_eq_some_iff.1 h).1]
  exact h
theorem Bx.lt {w : World} {B : Nat} {cs : Array Value} {t : TypeId} (h : Bx w B cs t) : B < w.heap.size := (Array.getElem?_eq_some_iff.1 h).1
theorem Bx.cells3 {w : World} {B : Nat} {v0 v1 v2 : Value} {t : TypeId} (h : Bx w B #[v0, v1, v2] t) : w.cell? ⟨B, 0, none⟩ = some v0 ∧ w.cell? ⟨B, 1, none⟩ = some v1 ∧ w.cell? ⟨B, 2, none⟩ = some v2 := by
  unfold Bx at h
  refine ⟨?_, ?_, ?_⟩ <;> simp [World.cell?, h]
theorem Bx.set {w : World} {B : Nat} {cs : Array Value} {t : TypeId} (h : Bx w B cs t) (j : Nat) (u : Value) : Bx (w.setCell ⟨B, j, none⟩ u) B (cs.setIfInBounds j u) t := by
  have h1 := heap_setCell_same w B j _ _ u h
  unfold Bx
  simpa using h1
theorem Bx.set_ne {w : World} {B C : Nat} {cs : Array Value} {t : TypeId} (h : Bx w B cs t) (hne : B ≠ C) (j : Nat) (u : Value) : Bx (w.setCell ⟨C, j, none⟩ u) B cs t := by
  unfold Bx at *
  rw [Below.heap_setCell _ _ _ _ hne]
  exact h
theorem Bx.alloc {w : World} {B : Nat} {cs : Array Value} {t : TypeId} (h : Bx w B cs t) (o : Obj) : Bx (w.alloc o) B cs t := h.below (one_box _ _)
theorem Bx.new (w : World) (cs : Array Value) (t : TypeId) : Bx (w.alloc (.cells cs t)) w.heap.size cs t := heap_alloc_new _ _

/-- While the second part's beginning is sought: the three boxes of claims. -/
def PartsR (w : World) (c : Cl) (x y : Int) (w' : World) : Prop :=
  Bx w' w.heap.size #[.bool c.wr, .int .i64 c.col, .string ⟨c.key.toArray⟩, .int .i64 c.lo, .int .i64 c.hi] 28 ∧
  Bx w' (w.heap.size + 1) #[.bool c.wr, .int .i64 c.col, .string ⟨c.key.toArray⟩, .int .i64 c.lo, .int .i64 x] 28 ∧
  Bx w' (w.heap.size + 1 + 1) #[.bool c.wr, .int .i64 c.col, .string ⟨c.key.toArray⟩, .int .i64 y, .int .i64 c.hi] 28 ∧ Below w.heap.size w w'
theorem parts_start (w : World) (c : Cl) :
    PartsR w c c.hi c.lo (((w.alloc (.cells #[.bool c.wr, .int .i64 c.col, .string ⟨c.key.toArray⟩, .int .i64 c.lo, .int .i64 c.hi] 28)).alloc (.cells #[.bool c.wr, .int .i64 c.col, .string ⟨c.key.toArray⟩, .int .i64 c.lo, .int .i64 c.hi] 28)).alloc (.cells #[.bool c.wr, .int .i64 c.col, .string ⟨c.key.toArray⟩, .int .i64 c.lo, .int .i64 c.hi] 28)) := by
  have h0 := Bx.new w #[.bool c.wr, .int .i64 c.col, .string ⟨c.key.toArray⟩, .int .i64 c.lo, .int .i64 c.hi] 28
  have h1 := Bx.new (w.alloc (.cells #[.bool c.wr, .int .i64 c.col, .string ⟨c.key.toArray⟩, .int .i64 c.lo, .int .i64 c.hi] 28)) #[.bool c.wr, .int .i64 c.col, .string ⟨c.key.toArray⟩, .int .i64 c.lo, .int .i64 c.hi] 28
  have h2 := Bx.new ((w.alloc (.cells #[.bool c.wr, .int .i64 c.col, .string ⟨c.key.toArray⟩, .int .i64 c.lo, .int .i64 c.hi] 28)).alloc (.cells #[.bool c.wr, .int .i64 c.col, .string ⟨c.key.toArray⟩, .int .i64 c.lo, .int .i64 c.hi] 28)) #[.bool c.wr, .int .i64 c.col, .string ⟨c.key.toArray⟩, .int .i64 c.lo, .int .i64 c.hi] 28
  rw [show (w.alloc (.cells #[.bool c.wr, .int .i64 c.col, .string ⟨c.key.toArray⟩, .int .i64 c.lo, .int .i64 c.hi] 28)).heap.size = w.heap.size + 1 by simp] at h1
  rw [show ((w.alloc (.cells #[.bool c.wr, .int .i64 c.col, .string ⟨c.key.toArray⟩, .int .i64 c.lo, .int .i64 c.hi] 28)).alloc (.cells #[.bool c.wr, .int .i64 c.col, .string ⟨c.key.toArray⟩, .int .i64 c.lo, .int .i64 c.hi] 28)).heap.size = w.heap.size + 1 + 1 by simp] at h2
  exact ⟨(h0.alloc _).alloc _, h1.alloc _, h2, ((((Below.refl _ _).alloc (Nat.le_refl _) _).alloc (by simp) _).alloc (by simp; omega) _)⟩
theorem PartsR.first {w : World} {c : Cl} {x y z : Int} {w' : World} (h : PartsR w c x y w') : PartsR w c z y (w'.setCell ⟨w.heap.size + 1, 4, none⟩ (.int .i64 z)) := by
  obtain ⟨h0, h1, h2, h3⟩ := h
  refine ⟨h0.set_ne (by omega) _ _, ?_, h2.set_ne (by omega) _ _, h3.setCell (p := ⟨w.heap.size + 1, 4, none⟩) (by simp) _⟩
  have := h1.set 4 (.int .i64 z)
  simpa using this
theorem PartsR.next {w : World} {c : Cl} {x y z : Int} {w' : World} (h : PartsR w c x y w') : PartsR w c x z (w'.setCell ⟨w.heap.size + 1 + 1, 3, none⟩ (.int .i64 z)) := by
  obtain ⟨h0, h1, h2, h3⟩ := h
  refine ⟨h0.set_ne (by omega) _ _, h1.set_ne (by omega) _ _, ?_, h3.setCell (p := ⟨w.heap.size + 1 + 1, 3, none⟩) (by simp; omega) _⟩
  have := h2.set 3 (.int .i64 z)
  simpa using this
theorem PartsR.drew {w : World} {c : Cl} {x y : Int} {w' : World} (h : PartsR w c x y w') : PartsR w c x y w'.drew := ⟨h.1, h.2.1, h.2.2.1, h.2.2.2.drew⟩
theorem PartsR.below {w : World} {c : Cl} {x y : Int} {w' w'' : World} (h : PartsR w c x y w') (hb : Below w'.heap.size w' w'') : PartsR w c x y w'' := ⟨h.1.below hb, h.2.1.below hb, h.2.2.1.below hb, h.2.2.2.trans (hb.mono h.2.2.2.size)⟩
theorem Bx.cells5 {w : World} {B : Nat} {v0 v1 v2 v3 v4 : Value} {t : TypeId} (h : Bx w B #[v0, v1, v2, v3, v4] t) : w.cell? ⟨B, 0, none⟩ = some v0 ∧ w.cell? ⟨B, 1, none⟩ = some v1 ∧ w.cell? ⟨B, 2, none⟩ = some v2 ∧ w.cell? ⟨B, 3, none⟩ = some v3 ∧ w.cell? ⟨B, 4, none⟩ = some v4 := by
  unfold Bx at h
  refine ⟨?_, ?_, ?_, ?_, ?_⟩ <;> simp [World.cell?, h]
theorem Bx.frozen {w : World} {B j : Nat} {cs : Array Value} {t : TypeId} (h : Bx w B cs t) : w.frozen? ⟨B, j, none⟩ = false := by
  unfold Bx at h
  simp [World.frozen?, h]

/-- Five cells that hold a claim. -/
def CellsAt (w : World) (b o : Nat) (c : Cl) : Prop := b < w.heap.size ∧ w.cell? ⟨b, o, none⟩ = some (.bool c.wr) ∧ w.cell? ⟨b, o + 1, none⟩ = some (.int .i64 c.col) ∧ w.cell? ⟨b, o + 2, none⟩ = some (.string ⟨c.key.toArray⟩) ∧
  w.cell? ⟨b, o + 3, none⟩ = some (.int .i64 c.lo) ∧ w.cell? ⟨b, o + 4, none⟩ = some (.int .i64 c.hi)
theorem CellsAt.below {w w' : World} {b o : Nat} {c : Cl} (h : CellsAt w b o c) (hb : Below w.heap.size w w') : CellsAt w' b o c :=
  ⟨Nat.lt_of_lt_of_le h.1 hb.size, (hb.cell (p := ⟨b, o, none⟩) h.1).trans h.2.1, (hb.cell (p := ⟨b, o + 1, none⟩) h.1).trans h.2.2.1, (hb.cell (p := ⟨b, o + 2, none⟩) h.1).trans h.2.2.2.1, (hb.cell (p := ⟨b, o + 3, none⟩) h.1).trans h.2.2.2.2.1, (hb.cell (p := ⟨b, o + 4, none⟩) h.1).trans h.2.2.2.2.2⟩

end Go.Proofs.Ytdmpdlpfanfjoaa
