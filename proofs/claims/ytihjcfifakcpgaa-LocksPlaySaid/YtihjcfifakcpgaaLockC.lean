/- Enqueue: a footprint comes last in line. -/
import Derived.Test.YtihjcfifakcpgaaLockB
namespace Go.Proofs.Ytihjcfifakcpgaa
open Go.RowKit Go.Maps Go.WideShapes

/-- What Enqueue does. -/
def EnqP (F C : Nat → Prop) (b : Nat) (sm : Bool) (la : Int) (l : List Ent) (n : Nat) (id : Int) (f : List Cl) (w : World) (e : Ending) (w' : World) : Prop :=
  Only F w w' ∧ ((sm = true ∧ id ≤ la ∧ e = .returned (.int .i64 17) ∧ LkAt w' F C b sm la l n) ∨
    ((sm = true → la < id) ∧ e = .returned (.int .i64 0) ∧ LkAt w' (fun k => F k ∨ New w w' k) C b true id (l ++ [(id, f)]) (n + l.length + 1)))

/-- How many of the first ones conflict. -/
noncomputable def openK (l : List Ent) (id : Int) (f : List Cl) (k : Nat) (i : Int) : Nat := if i = id then cfN (l.take k) f else opn l i
noncomputable def waitsK (l : List Ent) (id : Int) (f : List Cl) (k : Nat) (i j : Int) : Bool := wtB l i j || ((i == id) && (l.take k).any (fun e => (e.1 == j) && cfB e.2 f))
/-- While Enqueue goes round: the maps at m2, m3 turn, and nothing else. -/
def EnqR (wk : World) (F C : Nat → Prop) (b : Nat) (id : Int) (l : List Ent) (n m1 m2 m3 : Nat) (lv : Value) (g1 : Value → Option Value) (f : List Cl) (k : Nat) (w : World) : Prop :=
  ∃ g2 g3, LkIn w F C b true id l (n + k) m1 m2 m3 lv g1 g2 g3 ∧ OpenM (openK l id f k) g2 ∧ WaitsM (waitsK l id f k) g3 ∧ Only F wk w

theorem cfN_snoc {l : List Ent} {k : Nat} {e : Ent} (he : l[k]? = some e) (f : List Cl) : cfN (l.take (k + 1)) f = cfN (l.take k) f + (if cfB e.2 f = true then 1 else 0) := by
  unfold cfN
  rw [List.take_add_one, he]
  by_cases h : cfB e.2 f = true
  · simp [h]
  · simp [h]
theorem cfN_le (l : List Ent) (f : List Cl) (k : Nat) : cfN (l.take k) f ≤ k := by
  unfold cfN
  refine Nat.le_trans (List.length_filter_le _ _) ?_
  simp
  omega
theorem openK_no {l : List Ent} {k : Nat} {e : Ent} (he : l[k]? = some e) {id : Int} {f : List Cl} (h : cfB e.2 f = false) : openK l id f (k + 1) = openK l id f k := by
  funext i
  unfold openK
  rw [cfN_snoc he, h]
  simp
theorem waitsK_no {l : List Ent} {k : Nat} {e : Ent} (he : l[k]? = some e) {id : Int} {f : List Cl} (h : cfB e.2 f = false) : waitsK l id f (k + 1) = waitsK l id f k := by
  funext i j
  unfold waitsK
  rw [List.take_add_one, he]
  simp [h]
theorem openM_step {l : List Ent} {k : Nat} {e : Ent} (he : l[k]? = some e) {id : Int} {f : List Cl} (h : cfB e.2 f = true) {g : Value → Option Value} (hg : OpenM (openK l id f k) g) :
    OpenM (openK l id f (k + 1)) (updM g (.int .i64 id) (some (.int .i64 ((cfN (l.take k) f : Int) + 1)))) := by
  intro i
  unfold openK
  by_cases hi : i = id
  · subst hi
    rw [updM_same, if_pos rfl, cfN_snoc he, h]
    simp
  · rw [updM_other _ _ (fun e => hi (by injection e)), if_neg hi]
    have := hg i
    unfold openK at this
    rw [if_neg hi] at this
    exact this
theorem waitsM_step {l : List Ent} {k : Nat} {e : Ent} (he : l[k]? = some e) {id : Int} {f : List Cl} (h : cfB e.2 f = true) {g : Value → Option Value} (hg : WaitsM (waitsK l id f k) g) :
    WaitsM (waitsK l id f (k + 1)) (updM g (.agg #[.int .i64 id, .int .i64 e.1]) (some (.agg #[]))) := by
  refine ⟨fun i j => ?_, fun x u hu => ?_⟩
  · unfold waitsK
    rw [List.take_add_one, he]
    by_cases hij : i = id ∧ j = e.1
    · obtain ⟨rfl, rfl⟩ := hij
      rw [updM_same]
      simp [h]
    · rw [updM_other _ _ (fun e1 => hij (by injection e1 with e1; simp at e1; exact e1))]
      rw [hg.1 i j]
      unfold waitsK
      have h2 : ((i == id) && (e.1 == j)) = false := by
        rw [Bool.eq_false_iff]
        intro hh
        simp at hh
        exact hij ⟨hh.1, hh.2.symm⟩
      cases hi : (i == id) with
      | false => simp
      | true =>
        rw [hi] at h2
        simp only [Bool.true_and] at h2
        simp [h2]
  · by_cases hx : x = .agg #[.int .i64 id, .int .i64 e.1]
    · subst hx
      rw [updM_same] at hu
      injection hu with hu
      exact hu.symm
    · rw [updM_other _ _ hx] at hu
      exact hg.2 x u hu
theorem openK_zero {l : List Ent} {id : Int} (hid : ∀ e ∈ l, e.1 < id) (f : List Cl) : openK l id f 0 = opn l := by
  funext i
  unfold openK
  split
  · rename_i h
    subst h
    rw [opn_not (new_not hid)]
    simp [cfN]
  · rfl
theorem waitsK_zero (l : List Ent) (id : Int) (f : List Cl) : waitsK l id f 0 = wtB l := by
  funext i j
  simp [waitsK]
theorem openK_all {l : List Ent} (hr : Rise l) {id : Int} (hid : ∀ e ∈ l, e.1 < id) (f : List Cl) : openK l id f l.length = opn (l ++ [(id, f)]) := by
  funext i
  rw [opn_snoc hr hid, openK, List.take_length]
theorem waitsK_all {l : List Ent} (hr : Rise l) {id : Int} (hid : ∀ e ∈ l, e.1 < id) (f : List Cl) : waitsK l id f l.length = wtB (l ++ [(id, f)]) := by
  funext i j
  rw [wtB_snoc hr hid, waitsK, List.take_length]

section
variable {w w' : World} {F C : Nat → Prop} {b n m1 m2 m3 : Nat} {sm sm' : Bool} {la la' : Int} {l : List Ent} {lv : Value} {g1 g2 g3 : Value → Option Value}
theorem MapAt.ne_cells {P : Program} {K : TypeId} {m b n : Nat} {g : Value → Option Value} (h : MapAt P w K m n g) {cs : Array Value} {t : TypeId} {fr : Nat × Nat} (hb : w.heap[b]? = some (.cells cs t fr)) : m ≠ b := by
  obtain ⟨D, ⟨es, clock, h1, _⟩, _⟩ := h
  intro e
  subst e
  rw [h1] at hb
  cases hb
theorem LkIn.nb (h : LkIn w F C b sm la l n m1 m2 m3 lv g1 g2 g3) : m1 ≠ b ∧ m2 ≠ b ∧ m3 ≠ b := ⟨h.mp1.ne_cells h.blk, h.mp2.ne_cells h.blk, h.mp3.ne_cells h.blk⟩
theorem LkIn.nl (h : LkIn w F C b sm la l n m1 m2 m3 lv g1 g2 g3) : ∀ g, lv.ownBlock = some g → g ≠ b ∧ m1 ≠ g ∧ m2 ≠ g ∧ m3 ≠ g := by
  intro g hg
  obtain ⟨cs, fr, hb⟩ := own_blk h.own hg
  exact ⟨fun e => by subst e; exact own_blk_ne h.own h.blk (by decide) hg, h.mp1.ne_cells hb, h.mp2.ne_cells hb, h.mp3.ne_cells hb⟩
theorem LkIn.cF (h : LkIn w F C b sm la l n m1 m2 m3 lv g1 g2 g3) {x : Nat} (hx : F x) : ∀ k, C k → ¬ k = x := fun k hk e => (h.clt k hk).2 (e ▸ hx)
/-- Its own block turns. -/
theorem LkIn.setb (h : LkIn w F C b sm la l n m1 m2 m3 lv g1 g2 g3) (ho : Only (fun k => k = b) w w') (hb : w'.heap[b]? = some (.cells #[.bool sm', .int .i64 la', lv, .map (some m1), .map (some m2), .map (some m3)] 57 (0, 0))) (hl : LineOk sm' la' l) :
    LkIn w' F C b sm' la' l n m1 m2 m3 lv g1 g2 g3 where
  blk := hb
  own := own_only h.own ho (fun g hg => (h.nl g hg).1)
  mp1 := h.mp1.only ho h.nb.1
  mp2 := h.mp2.only ho h.nb.2.1
  mp3 := h.mp3.only ho h.nb.2.2
  d12 := h.d12
  d13 := h.d13
  d23 := h.d23
  fb := h.fb
  f1 := h.f1
  f2 := h.f2
  f3 := h.f3
  fl := h.fl
  flt := fun k hk => Nat.lt_of_lt_of_le (h.flt k hk) ho.size
  clt := fun k hk => ⟨Nat.lt_of_lt_of_le (h.clt k hk).1 ho.size, (h.clt k hk).2⟩
  line := hl
  feet := h.feet.only ho (h.cF h.fb)
/-- The map of numbers turns. -/
theorem LkIn.set2 (h : LkIn w F C b sm la l n m1 m2 m3 lv g1 g2 g3) (ho : Only (fun k => k = m2) w w') {n' : Nat} (hn : n ≤ n') {g : Value → Option Value} (hm : MapAt Try.prog w' 3 m2 n' g) :
    LkIn w' F C b sm la l n' m1 m2 m3 lv g1 g g3 where
  blk := ho.heap h.blk (fun e => h.nb.2.1 e.symm)
  own := own_only h.own ho (fun g hg e => (h.nl g hg).2.2.1 e.symm)
  mp1 := (h.mp1.only ho h.d12).mono hn
  mp2 := hm
  mp3 := (h.mp3.only ho (fun e => h.d23 e.symm)).mono hn
  d12 := h.d12
  d13 := h.d13
  d23 := h.d23
  fb := h.fb
  f1 := h.f1
  f2 := h.f2
  f3 := h.f3
  fl := h.fl
  flt := fun k hk => Nat.lt_of_lt_of_le (h.flt k hk) ho.size
  clt := fun k hk => ⟨Nat.lt_of_lt_of_le (h.clt k hk).1 ho.size, (h.clt k hk).2⟩
  line := h.line
  feet := h.feet.only ho (h.cF h.f2)
/-- The set of pairs turns. -/
theorem LkIn.set3 (h : LkIn w F C b sm la l n m1 m2 m3 lv g1 g2 g3) (ho : Only (fun k => k = m3) w w') {n' : Nat} (hn : n ≤ n') {g : Value → Option Value} (hm : MapAt Try.prog w' 72 m3 n' g) :
    LkIn w' F C b sm la l n' m1 m2 m3 lv g1 g2 g where
  blk := ho.heap h.blk (fun e => h.nb.2.2 e.symm)
  own := own_only h.own ho (fun g hg e => (h.nl g hg).2.2.2 e.symm)
  mp1 := (h.mp1.only ho h.d13).mono hn
  mp2 := (h.mp2.only ho h.d23).mono hn
  mp3 := hm
  d12 := h.d12
  d13 := h.d13
  d23 := h.d23
  fb := h.fb
  f1 := h.f1
  f2 := h.f2
  f3 := h.f3
  fl := h.fl
  flt := fun k hk => Nat.lt_of_lt_of_le (h.flt k hk) ho.size
  clt := fun k hk => ⟨Nat.lt_of_lt_of_le (h.clt k hk).1 ho.size, (h.clt k hk).2⟩
  line := h.line
  feet := h.feet.only ho (h.cF h.f3)
theorem LkIn.moren (h : LkIn w F C b sm la l n m1 m2 m3 lv g1 g2 g3) {n' : Nat} (hn : n ≤ n') : LkIn w F C b sm la l n' m1 m2 m3 lv g1 g2 g3 := { h with mp1 := h.mp1.mono hn, mp2 := h.mp2.mono hn, mp3 := h.mp3.mono hn }
/-- A number's place in line. -/
theorem LkIn.at_ {A : Option Addr} {m c : Nat} (h : LkIn w F C b sm la l n m1 m2 m3 (.slice A m c) g1 g2 g3) {k : Nat} {e : Ent} (he : l[k]? = some e) : m = l.length ∧ ∃ g, A = some ⟨g, 0, none⟩ ∧ w.cell? ⟨g, k, none⟩ = some (.int .i64 e.1) := by
  have hlt := (List.getElem?_eq_some_iff.1 he).1
  have hm : m = l.length := by
    rcases h.own.2 with ⟨hv, h0⟩ | ⟨g, cap, cur, hv, _⟩
    · injection hv with _ h2 _
      omega
    · injection hv
  refine ⟨hm, ?_⟩
  obtain ⟨g, cap, hv, hg0, hgl⟩ := h.own.form (by omega)
  injection hv with h1 _ h3
  subst h1 h3
  refine ⟨g, rfl, ?_⟩
  subst hm
  rw [h.own.cellAt k (by omega)]
  simp [nums, he]
end
theorem after_block {w w' : World} {o : Obj} {row : Option Nat} {b : Nat} {x : Obj} (hb : w.heap[b]? = some x) (hg : (w.alloc o).grownBy w' row) (hn : some b ≠ row) : w'.heap[b]? = some x := by
  have hlt := (Array.getElem?_eq_some_iff.1 hb).1
  rw [hg.block b (by simp; omega) hn, Below.heap_alloc _ _ _ hlt]
  exact hb
theorem ent_foot {w : World} {C : Nat → Prop} {l : List Ent} {g : Value → Option Value} (h : FeetM w C l g) {k : Nat} {e : Ent} (he : l[k]? = some e) : ∃ A c, g (.int .i64 e.1) = some (.agg #[.slice A e.2.length c]) ∧ ClRd w C (.slice A e.2.length c) e.2 ∧ e.2.length ≤ 1000000 := by
  obtain ⟨v, h1, h2, h3⟩ := h.2 e (List.mem_of_getElem? he)
  obtain ⟨A, c, rfl, _, _⟩ := h2.slice
  exact ⟨A, c, h1, h2, h3⟩

theorem enq_close {w wr w2 w4 : World} {F C : Nat → Prop} {b N m1 m2 m3 g cap : Nat} {id : Int} {l : List Ent} {lv v : Value} {g1 h2 h3 : Value → Option Value} {f : List Cl} {o : Obj} (h : LkIn wr F C b true id l N m1 m2 m3 lv g1 h2 h3)
    (hop : OpenM (openK l id f l.length) h2) (hwt : WaitsM (waitsK l id f l.length) h3) (hon : Only F w wr)
    (hown : w2.ownsRow 0 3 1 (.slice (some ⟨g, 0, none⟩) (l.length + 1) cap) (l.length + 1) ((nums l).map (Value.int .i64) ++ [.int .i64 id]))
    (hgrow : (wr.alloc o).grownBy w2 lv.ownBlock) (hat : lv.ownBlock = some g ∨ g = (wr.alloc o).heap.size) (hgl : g < w2.heap.size)
    (hm : MapAt Try.prog w4 3 m1 (N + 1) (updM g1 (.int .i64 id) (some (.agg #[v])))) (ho : Only (fun k => k = m1) (w2.setCell ⟨b, 2, none⟩ (.slice (some ⟨g, 0, none⟩) (l.length + 1) cap)) w4)
    (hid : I64 id) (hid2 : ∀ e ∈ l, e.1 < id) (hf : ClRd w C v f) (hfl : f.length ≤ 1000000) (hC : ∀ k, C k → k < w.heap.size) :
    Only F w w4 ∧ LkAt w4 (fun k => F k ∨ New w w4 k) C b true id (l ++ [(id, f)]) (N + 1) := by
  have hb0 := h.flt b h.fb
  have hl1 := h.flt m1 h.f1
  have hl2 := h.flt m2 h.f2
  have hl3 := h.flt m3 h.f3
  have hs0 := hon.size
  have hsg := hgrow.size
  have hs3 := ho.size
  have hs2 : (w2.setCell ⟨b, 2, none⟩ (.slice (some ⟨g, 0, none⟩) (l.length + 1) cap)).heap.size = w2.heap.size := by simp [World.setCell]
  have hsa : (wr.alloc o).heap.size = wr.heap.size + 1 := by simp
  have hgb : g ≠ b := by
    rcases hat with hh | hh
    · exact (h.nl g hh).1
    · omega
  have hg1 : g ≠ m1 := by
    rcases hat with hh | hh
    · exact fun e => (h.nl g hh).2.1 e.symm
    · omega
  have keep : ∀ x, x < wr.heap.size → x ≠ b → x ≠ m1 → lv.ownBlock ≠ some x → w4.heap[x]? = wr.heap[x]? := by
    intro x hx h1 h2 h3
    rw [ho.block x (by omega) h2, (Only.set1 w2 b 2 _).block x (by omega) h1, hgrow.block x (by omega) (fun e => h3 e.symm)]
    exact Below.heap_alloc _ _ _ hx
  have oA : Only F wr w4 := by
    refine ⟨?_, ?_, ?_, by omega, fun x hx hF => ?_⟩
    · rw [ho.os, (Only.set1 w2 b 2 _).os, hgrow.os]; rfl
    · rw [ho.tape, (Only.set1 w2 b 2 _).tape, hgrow.tape]; rfl
    · rw [ho.output, (Only.set1 w2 b 2 _).output, hgrow.output]; rfl
    · exact keep x hx (fun e => hF (e ▸ h.fb)) (fun e => hF (e ▸ h.f1)) (fun e => hF (h.fl x e))
  have hblk2 := after_block (b := b) h.blk hgrow (fun e => (h.nl b e.symm).1 rfl)
  have hblk3 := heap_setCell_same w2 b 2 _ _ (.slice (some ⟨g, 0, none⟩) (l.length + 1) cap) hblk2
  have hfeet : FeetM w4 C l g1 := h.feet.only oA (fun k hk => (h.clt k hk).2)
  have hnot := new_not hid2
  refine ⟨hon.trans oA (fun _ _ e => e), m1, m2, m3, .slice (some ⟨g, 0, none⟩) (l.length + 1) cap, updM g1 (.int .i64 id) (some (.agg #[v])), h2, h3, ?_, by rw [← openK_all h.line.1 hid2]; exact hop, by rw [← waitsK_all h.line.1 hid2]; exact hwt⟩
  refine { blk := ?_, own := ?_, mp1 := hm, mp2 := (h.mp2.same ?_).mono (Nat.le_succ _), mp3 := (h.mp3.same ?_).mono (Nat.le_succ _), d12 := h.d12, d13 := h.d13, d23 := h.d23, fb := .inl h.fb, f1 := .inl h.f1, f2 := .inl h.f2, f3 := .inl h.f3, fl := ?_, flt := ?_, clt := ?_, line := ?_, feet := ?_ }
  · rw [ho.block b (by omega) (fun e => h.nb.1 e.symm)]
    simpa using hblk3
  · have := own_only (own_only hown (Only.set1 w2 b 2 (.slice (some ⟨g, 0, none⟩) (l.length + 1) cap)) (fun x hx e => hgb (by simp [Value.ownBlock] at hx; omega))) ho (fun x hx e => hg1 (by simp [Value.ownBlock] at hx; omega))
    simpa [nums] using this
  · exact keep m2 hl2 h.nb.2.1 (fun e => h.d12 e.symm) (fun e => (h.nl m2 e).2.2.1 rfl)
  · exact keep m3 hl3 h.nb.2.2 (fun e => h.d13 e.symm) (fun e => (h.nl m3 e).2.2.2 rfl)
  · intro k hk
    have hk : g = k := by simpa [Value.ownBlock] using hk
    subst hk
    rcases hat with hh | hh
    · exact .inl (h.fl _ hh)
    · exact .inr ⟨by omega, by omega⟩
  · rintro k (hk | hk)
    · have := h.flt k hk
      omega
    · exact hk.2
  · intro k hk
    refine ⟨by have := (h.clt k hk).1; omega, ?_⟩
    rintro (hh | hh)
    · exact (h.clt k hk).2 hh
    · have := hC k hk
      have := hh.1
      omega
  · refine ⟨h.line.1.snoc hid2, fun e he => ⟨rfl, ?_⟩, fun e he => ?_⟩
    · rcases List.mem_append.1 he with he | he
      · exact Int.le_of_lt (hid2 e he)
      · simp at he; subst he; exact Int.le_refl _
    · rcases List.mem_append.1 he with he | he
      · exact h.line.2.2 e he
      · simp at he; subst he; exact hid
  · refine ⟨fun i hi => ?_, fun e he => ?_⟩
    · rw [nums_snoc] at hi
      simp at hi
      rw [updM_other _ _ (fun e => hi.2 (by injection e))]
      exact hfeet.1 i hi.1
    · rcases List.mem_append.1 he with he | he
      · have hlt := hid2 e he
        obtain ⟨u, h1, r⟩ := hfeet.2 e he
        exact ⟨u, by rw [updM_other _ _ (fun e1 => by injection e1 with _ e1; omega)]; exact h1, r⟩
      · simp at he
        subst he
        exact ⟨v, updM_same _ _ _, RdK.only hf (hon.trans oA (fun _ _ e => e)) (fun k hk => (h.clt k hk).2), hfl⟩

set_option maxRecDepth 100000 in
set_option maxHeartbeats 1000000 in
theorem enq_ok (w : World) (F C : Nat → Prop) (b n : Nat) (sm : Bool) (la : Int) (l : List Ent) (id : Int) (v : Value) (f : List Cl) (h : LkAt w F C b sm la l n) (hl : l.length ≤ 100000) (hn : n ≤ 1000000000) (hid : I64 id) (hf : ClRd w C v f) (hfl : f.length ≤ 1000000) :
    Calls Try.prog 8 #[.pointer (some ⟨b, 0, none⟩), .int .i64 id, .agg #[v]] w (EnqP F C b sm la l n id f w) := by
  obtain ⟨i0, hi, hz0, hz1, hz2⟩ := info_parts Try.infoInt
  obtain ⟨m1, m2, m3, lv, g1, g2, g3, h, ho, hw⟩ := h
  obtain ⟨A, c, rfl, _, _⟩ := hf.slice
  obtain ⟨A2, c2', rfl⟩ := ownsRow_slice h.own
  have hB := box1 w (.cells #[.slice A f.length c] 35)
  have HH := Lib.hid (And.intro h (And.intro ho (And.intro hw (And.intro hid (And.intro hf hfl)))))
  have HB := Lib.hid hB
  have h1 := h.below hB
  obtain ⟨q0, q1, q2, q3, q4, q5⟩ := h1.cells
  have r0 := h1.frozen 0
  have r1 := h1.frozen 1
  have r2 := h1.frozen 2
  have ql : b < w.heap.size := h.flt b h.fb
  by_cases hold : sm = true ∧ id ≤ la
  · obtain ⟨rfl, hold⟩ := hold
    have HO := Lib.hid (And.intro h1 hold)
    clear h ho hw hid hf hfl hB h1
    go_enter Try.func8, Try.ntmps8
    go_wp2_with fail
    go_ret
    exact ⟨Only.of_below HB.out F, .inl ⟨rfl, HO.out.2, rfl, m1, m2, m3, _, g1, g2, g3, HO.out.1, HH.out.2.1, HH.out.2.2.1⟩⟩
  · have hnew : sm = true → la < id := fun e => by
      have : ¬ id ≤ la := fun hh => hold ⟨e, hh⟩
      omega
    have hid2 : ∀ e ∈ l, e.1 < id := fun e he => by
      have h1 := h.line.2.1 e he
      have h2 := hnew h1.1
      omega
    have HN := Lib.hid (And.intro hnew hid2)
    clear hnew hid2 hold h ho hw hid hf hfl hB
    have HI1 := Lib.hid h1
    clear h1
    have hsz : w.heap.size < (w.alloc (.cells #[.slice A f.length c] 35)).heap.size := by simp
    have hbn := heap_alloc_new w (.cells #[.slice A f.length c] 35)
    have HB2 := Lib.hid (And.intro HB.out (And.intro hbn hsz))
    clear HB hsz hbn
    cases sm with
    | true =>
      have HN0 := Lib.hid (show (true = true → la < id) from HN.out.1)
      have hlt1 : ¬ id ≤ la := by have := HN.out.1 rfl; omega
      go_enter Try.func8, Try.ntmps8
      go_upto_region 1 with fail
      generalize w.alloc (.cells #[.slice A f.length c] 35) = wb at HB2 HI1 q0 q1 q2 q3 q4 q5 r0 r1 r2 ⊢
      have HB := HB2
      clear HB2
      go_upto_region 6 with fail
      have ho1 : Only (fun k => k = b) wb ((wb.setCell ⟨b, 0, none⟩ (.bool true)).setCell ⟨b, 1, none⟩ (.int .i64 id)) := (Only.set1 wb b 0 (.bool true)).trans (Only.set1 _ b 1 (.int .i64 id)) (fun _ _ e => e)
      have hb2 := heap_setCell_same _ b 1 _ _ (.int .i64 id) (heap_setCell_same wb b 0 _ _ (.bool true) HI1.out.blk)
      have hw2 : LkIn ((wb.setCell ⟨b, 0, none⟩ (.bool true)).setCell ⟨b, 1, none⟩ (.int .i64 id)) F C b true id l n m1 m2 m3 (.slice A2 l.length c2') g1 g2 g3 := HI1.out.setb ho1 (by simpa using hb2) ⟨HI1.out.line.1, fun e he => ⟨rfl, Int.le_of_lt (HN.out.2 e he)⟩, HI1.out.line.2.2⟩
      have hb3 : Only F w ((wb.setCell ⟨b, 0, none⟩ (.bool true)).setCell ⟨b, 1, none⟩ (.int .i64 id)) := (Only.of_below HB.out.1 F).trans ho1 (fun i _ e => by subst e; exact HI1.out.fb)
      have hb4 : ((wb.setCell ⟨b, 0, none⟩ (.bool true)).setCell ⟨b, 1, none⟩ (.int .i64 id)).heap[w.heap.size]? = some (.cells #[.slice A f.length c] 35 (0, 0)) := by rw [ho1.block _ HB.out.2.2 (by omega)]; exact HB.out.2.1
      generalize (wb.setCell ⟨b, 0, none⟩ (.bool true)).setCell ⟨b, 1, none⟩ (.int .i64 id) = wk at hw2 hb3 hb4 ⊢
      have HK := Lib.hid (And.intro hw2 (And.intro hb3 hb4))
      clear ho1 hb2 hw2 hb3 hb4 q0 q1 q2 q3 q4 q5 r0 r1 r2
      obtain ⟨q0, q1, q2, q3, q4, q5⟩ := HK.out.1.cells
      clear q0 q1 q3 q4 q5
      go_wp2_with fail
      go_loopw [35] (fun i wr => ∃ k, k ≤ l.length ∧ i = .int .i64 (k : Int) ∧ EnqR wk F C b id l n m1 m2 m3 (.slice A2 l.length c2') g1 f k wr) (fun i _ => l.length - (intOf i).toNat)
      case atStart => exact ⟨0, Nat.zero_le _, rfl, g2, g3, HK.out.1, by rw [openK_zero HN.out.2]; exact HH.out.2.1, by rw [waitsK_zero]; exact HH.out.2.2.1, Only.refl _ _⟩
      case round =>
        obtain ⟨k, hk, rfl, h2, h3, hin, hop, hwt, hon⟩ := hrel
        have hbx : wr.heap[w.heap.size]? = some (.cells #[.slice A f.length c] 35 (0, 0)) := hon.heap HK.out.2.2 (fun hh => by have := HH.out.1.flt _ hh; omega)
        have HR := Lib.hid (And.intro hin (And.intro hop (And.intro hwt (And.intro hon hbx))))
        clear hop hwt hon
        by_cases hlt : k < l.length
        · obtain ⟨x, hx⟩ : ∃ x, l[k]? = some x := ⟨_, List.getElem?_eq_getElem hlt⟩
          obtain ⟨_, gl, rfl, cx⟩ := hin.at_ hx
          obtain ⟨Ax, cx', hgx, hrx, hlx⟩ := ent_foot hin.feet hx
          have hix := hin.line.2.2 x (List.mem_of_getElem? hx)
          obtain ⟨q0, q1, q2', q3, q4, q5⟩ := hin.cells
          have cbx := blk_cell hbx
          have hlk := hin.mp1.drew.look lawI Try.underlying53 (Try.zeroFoot _) (keyI hix)
          rw [hgx] at hlk
          simp only [Option.getD_some] at hlk
          have hrf : ClRd wr C (.slice A f.length c) f := RdK.only (RdK.only HH.out.2.2.2.2.1 HK.out.2.1 (fun k hk => (HH.out.1.clt k hk).2)) HR.out.2.2.2.1 (fun k hk => (HH.out.1.clt k hk).2)
          have HX := Lib.hid (And.intro hx (And.intro hgx (And.intro hrx (And.intro hlx (And.intro hix hrf)))))
          clear hin hx hgx hrx hlx hix hrf hbx
          go_upto_region 9 with fail
          go_still_tail 7, (by kernel_rfl)
          change wpList _ _ _ _ _ wr.drew
          go_wp2_with fail
          refine (conflict_ok wr.drew C C (.slice Ax x.2.length cx') (.slice A f.length c) x.2 f (RdK.below HX.out.2.2.1 (Below.refl _ _).drew) (RdK.below HX.out.2.2.2.2.2 (Below.refl _ _).drew) HX.out.2.2.2.1 HH.out.2.2.2.2.2).mono ?_
          rintro e w1 ⟨r, hr, rfl, hb1⟩
          have hb1' := undrew hb1
          have hin := HR.out.1.below hb1'
          have hon : Only F wk w1 := HR.out.2.2.2.1.trans (Only.of_below hb1' F) (fun _ _ e => e)
          cases hcf : cfB x.2 f with
          | true =>
            obtain rfl : r = true := hr.2 (cfB_iff.1 hcf)
            obtain ⟨p0, p1, p2, p3, p4, p5⟩ := hin.cells
            have HC := Lib.hid (And.intro hcf (And.intro hin hon))
            clear hcf hr hb1 hb1' hin hon p0 p1 p2 p3 q0 q1 q2' q3 q4 q5 hlk
            go_upto_region 11 with (at_mapUpdate; go_loud (refine wpList_store _ rfl _ _ _ 55 rfl lawP Try.underlying55 rfl HC.out.2.1.mp3 (by unfold maxLen; omega) rfl rfl (keyP HH.out.2.2.2.1 HX.out.2.2.2.2.1) ?_); intro w2 hm2 ho2)
            have hin2 := HC.out.2.1.set3 ho2 (Nat.le_succ _) hm2
            obtain ⟨p0, p1, p2, p3, s4, p5'⟩ := hin2.cells
            have hon2 : Only F wk w2 := HC.out.2.2.trans ho2 (fun i _ e => by subst e; exact HC.out.2.1.f3)
            have hc0 := HR.out.2.1 id
            unfold openK at hc0
            rw [if_pos rfl] at hc0
            have hle := cfN_le l f k
            obtain ⟨cnt, hcnt⟩ : ∃ cnt, cfN (l.take k) f = cnt := ⟨_, rfl⟩
            rw [hcnt] at hc0 hle
            have hmp2 := HC.out.2.1.mp2.only ho2 HC.out.2.1.d23
            have HC2 := Lib.hid (And.intro hin2 (And.intro hon2 (And.intro hc0 (And.intro hcnt hmp2))))
            clear hmp2
            clear hm2 ho2 hin2 hon2 hc0 hcnt p0 p1 p2 p3 p5' p4 p5
            go_wp2_with (first | (at_lookup; go_loud (refine wpList_look _ rfl _ _ 54 rfl lawI Try.underlying54 (Try.zeroInt _) rfl HC2.out.2.2.2.2 rfl (keyI HH.out.2.2.2.1) (.int .i64 (cnt : Int)) HC2.out.2.2.1 ?_)) | (at_mapUpdate; go_loud (refine wpList_store _ rfl _ _ _ 54 rfl lawI Try.underlying54 rfl HC2.out.2.2.2.2 (by unfold maxLen; omega) rfl rfl (keyI HH.out.2.2.2.1) ?_); intro w3 hm3 ho3))
            go_roundw
            case rel =>
              refine ⟨k + 1, by omega, by go_num, _, _, HC2.out.1.set2 ho3 (Nat.le_refl _) hm3, ?_, waitsM_step HX.out.1 HC.out.1 HR.out.2.2.1, HC2.out.2.1.trans ho3 (fun i _ e => by subst e; exact HC2.out.1.f2)⟩
              · have := openM_step HX.out.1 HC.out.1 HR.out.2.1
                rw [HC2.out.2.2.2.1] at this
                exact this
            case measure => simp [intOf]; omega
          | false =>
            obtain rfl : r = false := Bool.eq_false_iff.2 (fun hh => by rw [cfB_iff.2 (hr.1 hh)] at hcf; cases hcf)
            have HC := Lib.hid (And.intro hcf (And.intro hin hon))
            clear hcf hr hb1 hb1' hin hon q0 q1 q2' q3 q4 q5 hlk
            go_wp2_with fail
            go_roundw
            case rel => exact ⟨k + 1, by omega, by go_num, _, _, HC.out.2.1.moren (by omega), by rw [openK_no HX.out.1 HC.out.1]; exact HR.out.2.1, by rw [waitsK_no HX.out.1 HC.out.1]; exact HR.out.2.2.1, HC.out.2.2⟩
            case measure => simp [intOf]; omega
        · have hkl : k = l.length := by omega
          subst hkl
          obtain ⟨q0, q1, q2', q3, q4, q5⟩ := hin.cells
          have hnews := World.news_of_block (heap_alloc_new wr (.cells #[.int .i64 id] 3))
          have hown' := hin.own.alloc (.cells #[.int .i64 id] 3)
          have HW := Lib.hid (And.intro hnews hown')
          have HHI := Lib.hid hi
          have fz := hin.frozen 2
          have hbl : b < wr.heap.size := hin.flt b hin.fb
          have cbx := blk_cell hbx
          have hbxl : w.heap.size < wr.heap.size := (Array.getElem?_eq_some_iff.1 hbx).1
          clear hin hbx hnews hown' q0 q1 q4 q5
          go_upto_region 14 with (at_builtin; go_loud (refine wpList_append_lies _ rfl _ _ 43 rfl 0 3 i0 _ 1 8 Try.underlying43 HHI.out hz0 hz1 hz2 rfl (by decide) (.slice A2 l.length c2') l.length _ rfl HW.out.2 ⟨wr.heap.size, 0, none⟩ 1 1 [.int .i64 id] rfl rfl HW.out.1 (by simp [Value.oneCell']) (by decide) (by unfold maxLen; omega) (by omega) (by simp) _ rfl ?_); intro g cap w2 hown1 hgrow1 hat1 hlt1; have HA := Lib.hid (And.intro hown1 (And.intro hgrow1 (And.intro hat1 hlt1))); have fb2 := after_block (b := b) HR.out.1.blk hgrow1 (fun e => (HR.out.1.nl b e.symm).1 rfl); have fz2 : w2.frozen? ⟨b, 2, none⟩ = false := (by simp [World.frozen?, fb2]); have fc2 : w2.cell? ⟨b, 2, none⟩ = some (.slice A2 l.length c2') := (by simp [World.cell?, fb2]); clear hown1 hgrow1 hat1 hlt1 fb2)
          have hbk3 := heap_setCell_same w2 b 2 _ _ (.slice (some ⟨g, 0, none⟩) (l.length + 1) cap) (after_block (b := b) HR.out.1.blk HA.out.2.1 (fun e => (HR.out.1.nl b e.symm).1 rfl))
          have ho3 := Only.set1 w2 b 2 (.slice (some ⟨g, 0, none⟩) (l.length + 1) cap)
          have hms : MapAt Try.prog (w2.setCell ⟨b, 2, none⟩ (.slice (some ⟨g, 0, none⟩) (l.length + 1) cap)) 3 m1 (n + l.length) g1 := by
            refine HR.out.1.mp1.same ?_
            have hl1 := HR.out.1.flt m1 HR.out.1.f1
            rw [ho3.block m1 (by have := HA.out.2.1.size; simp at this; omega) HR.out.1.nb.1, HA.out.2.1.block m1 (by simp; omega) (fun e => (HR.out.1.nl m1 e.symm).2.1 rfl)]
            exact Below.heap_alloc _ _ _ hl1
          have hbx3 : (w2.setCell ⟨b, 2, none⟩ (.slice (some ⟨g, 0, none⟩) (l.length + 1) cap)).heap[w.heap.size]? = some (.cells #[.slice A f.length c] 35 (0, 0)) := by
            rw [ho3.block _ (by have := HA.out.2.1.size; simp at this; omega) (by omega), HA.out.2.1.block _ (by simp; omega) (fun e => by have := HH.out.1.flt _ (HR.out.1.fl _ e.symm); omega), Below.heap_alloc _ _ _ hbxl]
            exact HR.out.2.2.2.2
          clear ho3 fz2 fc2 q2 q2' q3 cbx fz
          generalize hw3 : w2.setCell ⟨b, 2, none⟩ (.slice (some ⟨g, 0, none⟩) (l.length + 1) cap) = w3 at hbk3 hms hbx3 ⊢
          have HW3 := Lib.hid (And.intro hw3 hms)
          have k3 : w3.cell? ⟨b, 3, none⟩ = some (.map (some m1)) := by simp [World.cell?, hbk3]
          have kb := blk_cell hbx3
          clear hw3 hms hbk3 hbx3
          go_still_tail 6, (by kernel_rfl)
          change wpList _ _ _ _ _ w3.drew
          go_wp2_with (at_mapUpdate; go_loud (refine wpList_store _ rfl _ _ _ 53 rfl lawI Try.underlying53 rfl HW3.out.2.drew (by unfold maxLen; omega) rfl rfl (keyI HH.out.2.2.2.1) ?_); intro w4 hm4 ho4)
          go_ret
          have hfin := enq_close HR.out.1 HR.out.2.1 HR.out.2.2.1 (HK.out.2.1.trans HR.out.2.2.2.1 (fun _ _ e => e)) HA.out.1 HA.out.2.1 HA.out.2.2.1 HA.out.2.2.2 hm4 (by rw [HW3.out.1]; exact ho4.undrew) HH.out.2.2.2.1 HN.out.2 HH.out.2.2.2.2.1 HH.out.2.2.2.2.2 (fun k hk => (HH.out.1.clt k hk).1)
          exact ⟨hfin.1, .inr ⟨(fun e => by first | exact HN0.out e | exact HN0.out trivial | cases e), rfl, hfin.2⟩⟩
    | false =>
      have HN0 := Lib.hid (show (false = true → la < id) from HN.out.1)
      go_enter Try.func8, Try.ntmps8
      go_upto_region 1 with fail
      generalize w.alloc (.cells #[.slice A f.length c] 35) = wb at HB2 HI1 q0 q1 q2 q3 q4 q5 r0 r1 r2 ⊢
      have HB := HB2
      clear HB2
      go_upto_region 6 with fail
      have ho1 : Only (fun k => k = b) wb ((wb.setCell ⟨b, 0, none⟩ (.bool true)).setCell ⟨b, 1, none⟩ (.int .i64 id)) := (Only.set1 wb b 0 (.bool true)).trans (Only.set1 _ b 1 (.int .i64 id)) (fun _ _ e => e)
      have hb2 := heap_setCell_same _ b 1 _ _ (.int .i64 id) (heap_setCell_same wb b 0 _ _ (.bool true) HI1.out.blk)
      have hw2 : LkIn ((wb.setCell ⟨b, 0, none⟩ (.bool true)).setCell ⟨b, 1, none⟩ (.int .i64 id)) F C b true id l n m1 m2 m3 (.slice A2 l.length c2') g1 g2 g3 := HI1.out.setb ho1 (by simpa using hb2) ⟨HI1.out.line.1, fun e he => ⟨rfl, Int.le_of_lt (HN.out.2 e he)⟩, HI1.out.line.2.2⟩
      have hb3 : Only F w ((wb.setCell ⟨b, 0, none⟩ (.bool true)).setCell ⟨b, 1, none⟩ (.int .i64 id)) := (Only.of_below HB.out.1 F).trans ho1 (fun i _ e => by subst e; exact HI1.out.fb)
      have hb4 : ((wb.setCell ⟨b, 0, none⟩ (.bool true)).setCell ⟨b, 1, none⟩ (.int .i64 id)).heap[w.heap.size]? = some (.cells #[.slice A f.length c] 35 (0, 0)) := by rw [ho1.block _ HB.out.2.2 (by omega)]; exact HB.out.2.1
      generalize (wb.setCell ⟨b, 0, none⟩ (.bool true)).setCell ⟨b, 1, none⟩ (.int .i64 id) = wk at hw2 hb3 hb4 ⊢
      have HK := Lib.hid (And.intro hw2 (And.intro hb3 hb4))
      clear ho1 hb2 hw2 hb3 hb4 q0 q1 q2 q3 q4 q5 r0 r1 r2
      obtain ⟨q0, q1, q2, q3, q4, q5⟩ := HK.out.1.cells
      clear q0 q1 q3 q4 q5
      go_wp2_with fail
      go_loopw [35] (fun i wr => ∃ k, k ≤ l.length ∧ i = .int .i64 (k : Int) ∧ EnqR wk F C b id l n m1 m2 m3 (.slice A2 l.length c2') g1 f k wr) (fun i _ => l.length - (intOf i).toNat)
      case atStart => exact ⟨0, Nat.zero_le _, rfl, g2, g3, HK.out.1, by rw [openK_zero HN.out.2]; exact HH.out.2.1, by rw [waitsK_zero]; exact HH.out.2.2.1, Only.refl _ _⟩
      case round =>
        obtain ⟨k, hk, rfl, h2, h3, hin, hop, hwt, hon⟩ := hrel
        have hbx : wr.heap[w.heap.size]? = some (.cells #[.slice A f.length c] 35 (0, 0)) := hon.heap HK.out.2.2 (fun hh => by have := HH.out.1.flt _ hh; omega)
        have HR := Lib.hid (And.intro hin (And.intro hop (And.intro hwt (And.intro hon hbx))))
        clear hop hwt hon
        by_cases hlt : k < l.length
        · obtain ⟨x, hx⟩ : ∃ x, l[k]? = some x := ⟨_, List.getElem?_eq_getElem hlt⟩
          obtain ⟨_, gl, rfl, cx⟩ := hin.at_ hx
          obtain ⟨Ax, cx', hgx, hrx, hlx⟩ := ent_foot hin.feet hx
          have hix := hin.line.2.2 x (List.mem_of_getElem? hx)
          obtain ⟨q0, q1, q2', q3, q4, q5⟩ := hin.cells
          have cbx := blk_cell hbx
          have hlk := hin.mp1.drew.look lawI Try.underlying53 (Try.zeroFoot _) (keyI hix)
          rw [hgx] at hlk
          simp only [Option.getD_some] at hlk
          have hrf : ClRd wr C (.slice A f.length c) f := RdK.only (RdK.only HH.out.2.2.2.2.1 HK.out.2.1 (fun k hk => (HH.out.1.clt k hk).2)) HR.out.2.2.2.1 (fun k hk => (HH.out.1.clt k hk).2)
          have HX := Lib.hid (And.intro hx (And.intro hgx (And.intro hrx (And.intro hlx (And.intro hix hrf)))))
          clear hin hx hgx hrx hlx hix hrf hbx
          go_upto_region 9 with fail
          go_still_tail 7, (by kernel_rfl)
          change wpList _ _ _ _ _ wr.drew
          go_wp2_with fail
          refine (conflict_ok wr.drew C C (.slice Ax x.2.length cx') (.slice A f.length c) x.2 f (RdK.below HX.out.2.2.1 (Below.refl _ _).drew) (RdK.below HX.out.2.2.2.2.2 (Below.refl _ _).drew) HX.out.2.2.2.1 HH.out.2.2.2.2.2).mono ?_
          rintro e w1 ⟨r, hr, rfl, hb1⟩
          have hb1' := undrew hb1
          have hin := HR.out.1.below hb1'
          have hon : Only F wk w1 := HR.out.2.2.2.1.trans (Only.of_below hb1' F) (fun _ _ e => e)
          cases hcf : cfB x.2 f with
          | true =>
            obtain rfl : r = true := hr.2 (cfB_iff.1 hcf)
            obtain ⟨p0, p1, p2, p3, p4, p5⟩ := hin.cells
            have HC := Lib.hid (And.intro hcf (And.intro hin hon))
            clear hcf hr hb1 hb1' hin hon p0 p1 p2 p3 q0 q1 q2' q3 q4 q5 hlk
            go_upto_region 11 with (at_mapUpdate; go_loud (refine wpList_store _ rfl _ _ _ 55 rfl lawP Try.underlying55 rfl HC.out.2.1.mp3 (by unfold maxLen; omega) rfl rfl (keyP HH.out.2.2.2.1 HX.out.2.2.2.2.1) ?_); intro w2 hm2 ho2)
            have hin2 := HC.out.2.1.set3 ho2 (Nat.le_succ _) hm2
            obtain ⟨p0, p1, p2, p3, s4, p5'⟩ := hin2.cells
            have hon2 : Only F wk w2 := HC.out.2.2.trans ho2 (fun i _ e => by subst e; exact HC.out.2.1.f3)
            have hc0 := HR.out.2.1 id
            unfold openK at hc0
            rw [if_pos rfl] at hc0
            have hle := cfN_le l f k
            obtain ⟨cnt, hcnt⟩ : ∃ cnt, cfN (l.take k) f = cnt := ⟨_, rfl⟩
            rw [hcnt] at hc0 hle
            have hmp2 := HC.out.2.1.mp2.only ho2 HC.out.2.1.d23
            have HC2 := Lib.hid (And.intro hin2 (And.intro hon2 (And.intro hc0 (And.intro hcnt hmp2))))
            clear hmp2
            clear hm2 ho2 hin2 hon2 hc0 hcnt p0 p1 p2 p3 p5' p4 p5
            go_wp2_with (first | (at_lookup; go_loud (refine wpList_look _ rfl _ _ 54 rfl lawI Try.underlying54 (Try.zeroInt _) rfl HC2.out.2.2.2.2 rfl (keyI HH.out.2.2.2.1) (.int .i64 (cnt : Int)) HC2.out.2.2.1 ?_)) | (at_mapUpdate; go_loud (refine wpList_store _ rfl _ _ _ 54 rfl lawI Try.underlying54 rfl HC2.out.2.2.2.2 (by unfold maxLen; omega) rfl rfl (keyI HH.out.2.2.2.1) ?_); intro w3 hm3 ho3))
            go_roundw
            case rel =>
              refine ⟨k + 1, by omega, by go_num, _, _, HC2.out.1.set2 ho3 (Nat.le_refl _) hm3, ?_, waitsM_step HX.out.1 HC.out.1 HR.out.2.2.1, HC2.out.2.1.trans ho3 (fun i _ e => by subst e; exact HC2.out.1.f2)⟩
              · have := openM_step HX.out.1 HC.out.1 HR.out.2.1
                rw [HC2.out.2.2.2.1] at this
                exact this
            case measure => simp [intOf]; omega
          | false =>
            obtain rfl : r = false := Bool.eq_false_iff.2 (fun hh => by rw [cfB_iff.2 (hr.1 hh)] at hcf; cases hcf)
            have HC := Lib.hid (And.intro hcf (And.intro hin hon))
            clear hcf hr hb1 hb1' hin hon q0 q1 q2' q3 q4 q5 hlk
            go_wp2_with fail
            go_roundw
            case rel => exact ⟨k + 1, by omega, by go_num, _, _, HC.out.2.1.moren (by omega), by rw [openK_no HX.out.1 HC.out.1]; exact HR.out.2.1, by rw [waitsK_no HX.out.1 HC.out.1]; exact HR.out.2.2.1, HC.out.2.2⟩
            case measure => simp [intOf]; omega
        · have hkl : k = l.length := by omega
          subst hkl
          obtain ⟨q0, q1, q2', q3, q4, q5⟩ := hin.cells
          have hnews := World.news_of_block (heap_alloc_new wr (.cells #[.int .i64 id] 3))
          have hown' := hin.own.alloc (.cells #[.int .i64 id] 3)
          have HW := Lib.hid (And.intro hnews hown')
          have HHI := Lib.hid hi
          have fz := hin.frozen 2
          have hbl : b < wr.heap.size := hin.flt b hin.fb
          have cbx := blk_cell hbx
          have hbxl : w.heap.size < wr.heap.size := (Array.getElem?_eq_some_iff.1 hbx).1
          clear hin hbx hnews hown' q0 q1 q4 q5
          go_upto_region 14 with (at_builtin; go_loud (refine wpList_append_lies _ rfl _ _ 43 rfl 0 3 i0 _ 1 8 Try.underlying43 HHI.out hz0 hz1 hz2 rfl (by decide) (.slice A2 l.length c2') l.length _ rfl HW.out.2 ⟨wr.heap.size, 0, none⟩ 1 1 [.int .i64 id] rfl rfl HW.out.1 (by simp [Value.oneCell']) (by decide) (by unfold maxLen; omega) (by omega) (by simp) _ rfl ?_); intro g cap w2 hown1 hgrow1 hat1 hlt1; have HA := Lib.hid (And.intro hown1 (And.intro hgrow1 (And.intro hat1 hlt1))); have fb2 := after_block (b := b) HR.out.1.blk hgrow1 (fun e => (HR.out.1.nl b e.symm).1 rfl); have fz2 : w2.frozen? ⟨b, 2, none⟩ = false := (by simp [World.frozen?, fb2]); have fc2 : w2.cell? ⟨b, 2, none⟩ = some (.slice A2 l.length c2') := (by simp [World.cell?, fb2]); clear hown1 hgrow1 hat1 hlt1 fb2)
          have hbk3 := heap_setCell_same w2 b 2 _ _ (.slice (some ⟨g, 0, none⟩) (l.length + 1) cap) (after_block (b := b) HR.out.1.blk HA.out.2.1 (fun e => (HR.out.1.nl b e.symm).1 rfl))
          have ho3 := Only.set1 w2 b 2 (.slice (some ⟨g, 0, none⟩) (l.length + 1) cap)
          have hms : MapAt Try.prog (w2.setCell ⟨b, 2, none⟩ (.slice (some ⟨g, 0, none⟩) (l.length + 1) cap)) 3 m1 (n + l.length) g1 := by
            refine HR.out.1.mp1.same ?_
            have hl1 := HR.out.1.flt m1 HR.out.1.f1
            rw [ho3.block m1 (by have := HA.out.2.1.size; simp at this; omega) HR.out.1.nb.1, HA.out.2.1.block m1 (by simp; omega) (fun e => (HR.out.1.nl m1 e.symm).2.1 rfl)]
            exact Below.heap_alloc _ _ _ hl1
          have hbx3 : (w2.setCell ⟨b, 2, none⟩ (.slice (some ⟨g, 0, none⟩) (l.length + 1) cap)).heap[w.heap.size]? = some (.cells #[.slice A f.length c] 35 (0, 0)) := by
            rw [ho3.block _ (by have := HA.out.2.1.size; simp at this; omega) (by omega), HA.out.2.1.block _ (by simp; omega) (fun e => by have := HH.out.1.flt _ (HR.out.1.fl _ e.symm); omega), Below.heap_alloc _ _ _ hbxl]
            exact HR.out.2.2.2.2
          clear ho3 fz2 fc2 q2 q2' q3 cbx fz
          generalize hw3 : w2.setCell ⟨b, 2, none⟩ (.slice (some ⟨g, 0, none⟩) (l.length + 1) cap) = w3 at hbk3 hms hbx3 ⊢
          have HW3 := Lib.hid (And.intro hw3 hms)
          have k3 : w3.cell? ⟨b, 3, none⟩ = some (.map (some m1)) := by simp [World.cell?, hbk3]
          have kb := blk_cell hbx3
          clear hw3 hms hbk3 hbx3
          go_still_tail 6, (by kernel_rfl)
          change wpList _ _ _ _ _ w3.drew
          go_wp2_with (at_mapUpdate; go_loud (refine wpList_store _ rfl _ _ _ 53 rfl lawI Try.underlying53 rfl HW3.out.2.drew (by unfold maxLen; omega) rfl rfl (keyI HH.out.2.2.2.1) ?_); intro w4 hm4 ho4)
          go_ret
          have hfin := enq_close HR.out.1 HR.out.2.1 HR.out.2.2.1 (HK.out.2.1.trans HR.out.2.2.2.1 (fun _ _ e => e)) HA.out.1 HA.out.2.1 HA.out.2.2.1 HA.out.2.2.2 hm4 (by rw [HW3.out.1]; exact ho4.undrew) HH.out.2.2.2.1 HN.out.2 HH.out.2.2.2.2.1 HH.out.2.2.2.2.2 (fun k hk => (HH.out.1.clt k hk).1)
          exact ⟨hfin.1, .inr ⟨(fun e => by first | exact HN0.out e | exact HN0.out trivial | cases e), rfl, hfin.2⟩⟩

end Go.Proofs.Ytihjcfifakcpgaa
