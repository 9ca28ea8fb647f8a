/- Arguments of the laws of Locks, opened; two Locks side by side. -/
import Derived.Test.YtihjcfifakcpgaaLockE
namespace Go.Proofs.Ytihjcfifakcpgaa
open Go.ChangeShapes Go.WideShapes Go.ChangeAt Go.RowKit Go.Deep

/-- A slice of slices of claims. -/
def RowsC (w : World) (v : Value) (ls : List (List Cl)) : Prop :=
  ∃ (A : Option Addr) (c : Nat), v = .slice A ls.length c ∧ ls.length ≤ c ∧ c ≤ maxLen ∧ ∀ i l, ls[i]? = some l → ∃ b o u, A = some ⟨b, o, none⟩ ∧ w.cell? ⟨b, o + i, none⟩ = some u ∧ ClRd w (fun _ => True) u l ∧ ∀ c ∈ l, c.fits
theorem Try.cellsCls : Try.prog.cellsOf 31 = 1 := by kernel_rfl
theorem Try.cellsTwo : Try.prog.cellsOf 72 = 2 := by kernel_rfl

set_option maxRecDepth 100000 in
theorem claims_of_trod0 {H : Type} {enc : TypeId × Value → H} {W : World} {fuel : Nat} {cs : List Value} {x : DataW H × List MemPlace} (hf : DataW.trod enc Try.prog W 0 (fun _ => true) true fuel 31 cs = some x) :
    ∃ (v : Value) (l : List Cl), cs = [v] ∧ ClRd W (fun _ => True) v l ∧ ∀ c ∈ l, c.fits := by
  rcases open_slice Try.underlying31 hf with ⟨rfl, hx⟩ | ⟨a, len, cap, m, n, D, Pl, rfl, hb, hl, hm, hmm, hx, hi⟩
  · exact ⟨_, [], rfl, RdK.nil _ _ _, by simp⟩
  · simp at hmm
    subst hmm
    have key : ∀ i, i < m → ∃ c : Cl, c.fits ∧ ∀ j u, c.cells[j]? = some u → W.cell? (a.add (i * 5 + j)) = some u := by
      intro i him
      obtain ⟨cs', hc, ht'⟩ := hi i him
      obtain ⟨c, rfl, hfit⟩ := claim_of_trod ht'
      rw [Try.cellsCl] at hc
      obtain ⟨_, hcl, hat⟩ := World.cells?_some hc
      refine ⟨c, hfit, fun j u hj => ?_⟩
      have hjl : j < 5 := by have := (List.getElem?_eq_some_iff.1 hj).1; simpa [Cl.cells] using this
      rw [← Go.Deep.add_add, hat j hjl, hj]
    let g : Nat → Cl := fun i => if h : i < m then (key i h).choose else ⟨false, 0, [], 0, 0⟩
    have hg : ∀ i, i < m → (g i).fits ∧ ∀ j u, (g i).cells[j]? = some u → W.cell? (a.add (i * 5 + j)) = some u := by
      intro i him
      have := (key i him).choose_spec
      simp only [g, him, dif_pos]
      exact this
    refine ⟨_, (List.range len).map g, rfl, ⟨some a, len, m, rfl, by simp, hl, hm, fun h0 => ?_⟩, ?_⟩
    · have h00 := (hg 0 (by omega)).2 0 _ rfl
      have ha : a = ⟨a.block, a.off, none⟩ := by
        have : a.add (0 * 5 + 0) = a := by simp [Addr.add]
        rw [this] at h00
        exact addr_of_cell h00
      refine ⟨a.block, a.off, by rw [← ha], trivial, fun i x hi j u hj => ?_⟩
      have hil : i < len := by have := (List.getElem?_eq_some_iff.1 hi).1; simpa using this
      simp [hil] at hi
      subst hi
      have := (hg i (by omega)).2 j u hj
      rw [ha] at this
      unfold Addr.add at this
      split at this
      · rename_i hz; rw [hz]; simpa using this
      · simpa using this
    · intro c hc
      obtain ⟨i, hi, rfl⟩ := List.mem_map.1 hc
      exact (hg i (by have := List.mem_range.1 hi; omega)).1

theorem okWide_arr {P : Program} {w : World} {r : Reach} {base : Nat} {t e : TypeId} {n : Nat} {v : Value} (ht : P.underlying t = some (.array n e)) (h : Value.okWide P w r base t v) : ∃ cs, v = .agg cs ∧ cs.size = P.cellsOf t := by
  unfold Value.okWide at h
  simp only [ht] at h
  exact let ⟨cs, a, b, _⟩ := h; ⟨cs, a, b⟩
set_option maxRecDepth 100000 in
theorem open_two {H : Type} {enc : TypeId × Value → H} {W : World} {v : Value} {d : DataW H} {p : List MemPlace} {base : Nat} (hval : Value.okWide Try.prog W .any base 72 v)
    (h : DataW.Trod enc Try.prog W 0 (fun _ => true) true 72 v d p) : ∃ x0 x1 : Int, v = .agg #[.int .i64 x0, .int .i64 x1] ∧ I64 x0 ∧ I64 x1 := by
  obtain ⟨cs, rfl, hs⟩ := okWide_arr Try.underlying72 hval
  rw [Try.cellsTwo] at hs
  obtain ⟨fuel, hf⟩ := h
  obtain ⟨xs, m, _, _, hl, hx, hi⟩ := DataW.trod_array Try.underlying72 hf
  obtain ⟨cl⟩ := cs
  match cl, hs with
  | [c0, c1], _ =>
    have key : ∀ i, i < 2 → ∃ n : Int, (([c0, c1] : List Value)[i]?) = some (.int .i64 n) ∧ I64 n := by
      intro i hi3
      have hh := hi i hi3
      rw [Try.cellsI, List.getElem?_eq_getElem (by rw [hx]; exact hi3)] at hh
      have h1 : (List.take 1 (List.drop (i * 1) (Value.cells (.agg #[c0, c1])).toList)) = [[c0, c1][i]] := by
        have : i = 0 ∨ i = 1 := by omega
        rcases this with rfl | rfl <;> rfl
      rw [h1] at hh
      obtain ⟨n, h2, _, h3⟩ := DataW.trod_int Try.underlying3 hh
      refine ⟨n, ?_, bounds_i64 h3⟩
      rw [List.getElem?_eq_getElem (by simpa using hi3)]
      simp at h2
      rw [h2]
    obtain ⟨n0, e0, b0⟩ := key 0 (by decide)
    obtain ⟨n1, e1, b1⟩ := key 1 (by decide)
    simp at e0 e1
    subst e0 e1
    exact ⟨n0, n1, rfl, b0, b1⟩

set_option maxRecDepth 100000 in
theorem open_ints {H : Type} {enc : TypeId × Value → H} {W : World} {v : Value} {d : DataW H} {p : List MemPlace} {base : Nat} (hval : Value.okWide Try.prog W .any base 43 v)
    (h : DataW.Trod enc Try.prog W 0 (fun _ => true) true 43 v d p) : ∃ xs : List Int, Rd W (fun _ => True) v (xs.map (Value.int .i64)) ∧ ∀ x ∈ xs, I64 x := by
  obtain ⟨a0, len0, cap0, rfl⟩ := okWide_slice Try.underlying43 hval
  obtain ⟨fuel, hf⟩ := h
  rcases Go.ChangeShapes.open_ints Try.underlying43 Try.underlying3 Try.cellsI hf with ⟨hcs, hx⟩ | ⟨a, len, cap, zs, hcs, hb, hl, hm, hz, hx, hcell, hwf⟩
  · simp [Value.cells] at hcs
    obtain ⟨rfl, rfl, rfl⟩ := hcs
    exact ⟨[], Rd.nil _ _, by simp⟩
  · simp [Value.cells] at hcs
    obtain ⟨rfl, rfl, rfl⟩ := hcs
    simp at hz
    refine ⟨zs.take len0, ⟨some a, len0, cap0, rfl, by simp; omega, hl, hm, fun h0 => ?_⟩, fun x hx => bounds_i64 (hwf x (List.mem_of_mem_take hx))⟩
    have h00 := hcell 0 (by omega)
    have ha : a = ⟨a.block, a.off, none⟩ := by
      have : a.add 0 = a := by simp [Addr.add]
      rw [this] at h00
      exact addr_of_cell h00
    refine ⟨a.block, a.off, by rw [← ha], trivial, fun j u hj => ?_⟩
    have hjl : j < len0 := by have := (List.getElem?_eq_some_iff.1 hj).1; simp at this; omega
    have h1 := hcell j (by omega)
    have hu : u = .int .i64 (zs.getD j 0) := by
      rw [List.getElem?_map, List.getElem?_take_of_lt hjl, List.getElem?_eq_getElem (by omega)] at hj
      simp at hj
      rw [← hj, List.getD_eq_getElem?_getD, List.getElem?_eq_getElem (by omega)]
      rfl
    subst hu
    rw [ha] at h1
    unfold Addr.add at h1
    split at h1
    · subst_vars; simpa using h1
    · simpa using h1

section
variable {w0 w w' : World} {F G C : Nat → Prop} {b b' n n' : Nat} {sm sm' : Bool} {la la' : Int} {l l' : List Ent}
/-- The other Locks, while one turns. -/
theorem One.other (hy : One w0 w G C b' sm' la' l' n') (hx : One w0 w F C b sm la l n) (ho : Only F w w') (ha : ∀ k, F k → ¬ G k) : One w0 w' G C b' sm' la' l' n' :=
  ⟨hy.1.only ho (fun k hk hF => ha k hF hk) (fun k hk => hx.cF k hk), hy.2.1, ⟨ho.os.trans hy.2.2.os, ho.tape.trans hy.2.2.tape, ho.output.trans hy.2.2.output, Nat.le_trans hy.2.2.size ho.size, fun k hk => (ho.block k (Nat.lt_of_lt_of_le hk hy.2.2.size) (fun hF => by have := hx.2.1 k hF; omega)).trans (hy.2.2.block k hk)⟩⟩
/-- What is new is apart. -/
theorem One.apart (hy : One w0 w G C b' sm' la' l' n') (ha : ∀ k, F k → ¬ G k) : ∀ k, (F k ∨ New w w' k) → ¬ G k := by
  rintro k (hk | hk) hG
  · exact ha k hk hG
  · have := hy.1.flt k hG
    have := hk.1
    omega
/-- Enqueue of a number above all others, its blocks named. -/
theorem EnqP.next {id : Int} {f : List Cl} {e : Ending} (h : EnqP F C b sm la l n id f w e w') (h0 : One w0 w F C b sm la l n) (hn : sm = true → la < id) : e = .returned (.int .i64 0) ∧ Only F w w' ∧ ∃ F', One w0 w' F' C b true id (l ++ [(id, f)]) (n + l.length + 1) ∧ ∀ k, F' k → F k ∨ w.heap.size ≤ k := by
  obtain ⟨h1, h2, h3⟩ := h.new h0 hn
  exact ⟨h1, h2, _, h3, fun k hk => hk.imp (fun h => h) (fun h => h.1)⟩
theorem One.apart2 {F' : Nat → Prop} (hy : One w0 w G C b' sm' la' l' n') (ha : ∀ k, F k → ¬ G k) (hF : ∀ k, F' k → F k ∨ w.heap.size ≤ k) : ∀ k, F' k → ¬ G k := by
  intro k hk hG
  rcases hF k hk with h | h
  · exact ha k h hG
  · have := hy.1.flt k hG
    omega
end
theorem RowsC.slice {w : World} {v : Value} {ls : List (List Cl)} (h : RowsC w v ls) : ∃ A c, v = .slice A ls.length c ∧ ls.length ≤ maxLen := by
  obtain ⟨A, c, rfl, h1, h2, _⟩ := h
  exact ⟨A, c, rfl, Nat.le_trans h1 h2⟩
theorem RowsC.at_ {w : World} {A : Option Addr} {m c : Nat} {ls : List (List Cl)} (h : RowsC w (.slice A m c) ls) {i : Nat} {l : List Cl} (hl : ls[i]? = some l) : ∃ b o A' c', A = some ⟨b, o, none⟩ ∧ w.cell? ⟨b, o + i, none⟩ = some (.slice A' l.length c') ∧ ClRd w (fun _ => True) (.slice A' l.length c') l ∧ ∀ c ∈ l, c.fits := by
  obtain ⟨A1, c1, hv, _, _, hx⟩ := h
  injection hv with h1 h2 h3
  subst h1 h3
  obtain ⟨b, o, u, hA, hc, hr, hf⟩ := hx i l hl
  obtain ⟨A', c', rfl, _, _⟩ := hr.slice
  exact ⟨b, o, A', c', hA, hc, hr, hf⟩
theorem RowsC.below {w w' : World} {v : Value} {ls : List (List Cl)} (h : RowsC w v ls) (hb : Below w.heap.size w w') : RowsC w' v ls := by
  obtain ⟨A, c, rfl, h1, h2, hx⟩ := h
  refine ⟨A, c, rfl, h1, h2, fun i l hl => ?_⟩
  obtain ⟨b, o, u, hA, hc, hr, hf⟩ := hx i l hl
  exact ⟨b, o, u, hA, (hb.cell (p := ⟨b, o + i, none⟩) (World.block_lt_of_cell? _ _ hc)).trans hc, RdK.below hr hb, hf⟩

end Go.Proofs.Ytihjcfifakcpgaa
