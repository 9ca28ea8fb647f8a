/- Release: one goes out of the line. -/
import Derived.Test.YtihjcfifakcpgaaLockC
import Derived.Test.YtihjcfifakcpgaaShelfL
namespace Go.Proofs.Ytihjcfifakcpgaa
open Go.RowKit Go.Maps Go.WideShapes

theorem delC_gives (id x : Int) (B : Nat) (W : World) (hc : W.cell? ⟨B, 0, none⟩ = some (.int .i64 id)) :
    FnGives Try.prog 29 #[.pointer (some ⟨B, 0, none⟩)] #[.int .i64 x] (.bool (x == id)) W := by
  show Calls Try.prog 29 #[.int .i64 x, .pointer (some ⟨B, 0, none⟩)] W _
  go_enter Try.func29, Try.ntmps29
  go_wp2_with fail
  go_ret
  exact ⟨rfl, 0, rfl⟩
theorem delC_at (id : Int) (B : Nat) (w : World) (hc : w.cell? ⟨B, 0, none⟩ = some (.int .i64 id)) :
    PredAt Try.prog 29 #[.pointer (some ⟨B, 0, none⟩)] (Value.int .i64) (fun x => x == id) w :=
  fun W x hb => delC_gives id x B W ((hb.cell (p := ⟨B, 0, none⟩) (World.block_lt_of_cell? _ _ hc)).trans hc)
theorem delC_over (id : Int) (B blk off size : Nat) (w : World) (hne : B ≠ blk) (hc : w.cell? ⟨B, 0, none⟩ = some (.int .i64 id)) :
    PredOver Try.prog 29 #[.pointer (some ⟨B, 0, none⟩)] (Value.int .i64) (fun x => x == id) blk off size w :=
  fun n os dk x _ => delC_gives id x B _ (by
    have hB := World.block_lt_of_cell? _ _ hc
    unfold Go.Proofs.sortWorld
    rw [Sort.cell?_grow _ _ _ (by show B < (Sort.putRow _ _ _ _ _).heap.size; rw [Sort.size_putRow]; exact hB), Sort.cell?_putRow_other _ _ blk off _ _ (Or.inl hne)]
    exact hc)
theorem put_heap {w : World} {g n : Nat} {cur : Array Value} {e : TypeId} {fr : Nat × Nat} (d : Array Int) (hb : w.heap[g]? = some (.cells cur e fr)) :
    (Sort.putRow (Value.int .i64) (Sort.ahead w n) g 0 d).heap[g]? = some (.cells (Sort.putCells (Value.int .i64) 0 d cur) e fr) := by
  simp [Sort.putRow, Sort.mapBlock, Sort.ahead, Array.getElem?_modify, hb, Sort.onCells]
theorem put_only {w : World} {g n : Nat} (d : Array Int) : Only (fun k => k = g) w (Sort.putRow (Value.int .i64) (Sort.ahead w n) g 0 d) := by
  refine ⟨rfl, rfl, rfl, by simp [Sort.putRow, Sort.mapBlock, Sort.ahead], fun k hk hne => ?_⟩
  have : g ≠ k := fun e => hne e.symm
  simp [Sort.putRow, Sort.mapBlock, Sort.ahead, Array.getElem?_modify, this]
theorem take_put (cur : Array Value) (ts zs : List Int) (h : ts.length ≤ cur.size) : (Sort.putCells (Value.int .i64) 0 (ts ++ zs).toArray cur).toList.take ts.length = ts.map (Value.int .i64) := by
  apply List.ext_getElem?
  intro j
  by_cases hj : j < ts.length
  · rw [List.getElem?_take_of_lt hj, Array.getElem?_toList]
    simp [Sort.putCells, show j < ts.length + zs.length by omega, show j < cur.size by omega, List.getElem?_eq_getElem hj, List.getElem_append_left hj]
  · rw [List.getElem?_take_eq_none (by omega), List.getElem?_eq_none (by simp; omega)]
/-- What DeleteFunc does. -/
def DelP (xs : List Int) (id : Int) (g cap : Nat) (w : World) (e : Ending) (w' : World) : Prop :=
  e = .returned (.slice (some ⟨g, 0, none⟩) (xs.filter (fun x => !(x == id))).length cap) ∧ w'.ownsRow 0 3 1 (.slice (some ⟨g, 0, none⟩) (xs.filter (fun x => !(x == id))).length cap) (xs.filter (fun x => !(x == id))).length ((xs.filter (fun x => !(x == id))).map (Value.int .i64)) ∧ Only (fun k => k = g) w w'
theorem delF_ok (w : World) (B g cap : Nat) (id : Int) (xs : List Int) (hown : w.ownsRow 0 3 1 (.slice (some ⟨g, 0, none⟩) xs.length cap) xs.length (xs.map (Value.int .i64))) (hB : w.cell? ⟨B, 0, none⟩ = some (.int .i64 id)) (hne : B ≠ g) (hl : xs.length ≤ 1000000) :
    Calls Try.prog 28 #[.slice (some ⟨g, 0, none⟩) xs.length cap, .func (.func 29) #[] #[.pointer (some ⟨B, 0, none⟩)]] w (DelP xs id g cap w) := by
  have eg : ∀ args w, (callFunc 29 args).run Try.prog w = .ok (.enter 29 args) w := enters_of Try.func29 (by kernel_rfl) rfl
  rcases hown.2 with ⟨hn, _⟩ | ⟨g', cap', cur, hv, _, hb, h1, h2, h3, h4⟩
  · cases hn
  injection hv with e1 e2 e3
  injection e1 with e1
  injection e1 with e1
  subst e1 e3
  have hH : Sort.Holds (Value.int .i64) w g 0 xs.toArray := by
    intro j hj
    have hj' : j < xs.length := by simpa using hj
    refine ⟨?_, by simp [World.frozen?, hb]⟩
    rw [Nat.zero_add, hown.cellAt j (by omega)]
    simp [hj']
  have hcon := AnyE.slices_DeleteFunc Try.delF (Value.int .i64) (fun _ => rfl) (fun x => x == id) 29 #[.pointer (some ⟨B, 0, none⟩)] eg 0 Try.zeroInt g 0 cap xs.toArray w (delC_at id B w hB) (delC_over id B g 0 _ w hne hB) hH (by simp; omega) (by simpa using h1)
  change Calls Try.prog 28 _ _ _ at hcon
  simp only [List.size_toArray] at hcon
  refine hcon.mono ?_
  rintro e w' ⟨rfl, q, rfl⟩
  have hle : (xs.filter (fun x => !(x == id))).length ≤ xs.length := List.length_filter_le _ _
  refine ⟨rfl, ⟨by simp, .inr ⟨g, cap, _, rfl, Nat.zero_le _, put_heap _ hb, by omega, h2, by simp [Sort.putCells, h3], ?_⟩⟩, put_only _⟩
  rw [Nat.mul_one]
  exact take_put cur _ _ (by omega)

/-- What Release does. -/
def RelP (F C : Nat → Prop) (b : Nat) (sm : Bool) (la : Int) (l : List Ent) (n : Nat) (id : Int) (w : World) (e : Ending) (w' : World) : Prop :=
  Only F w w' ∧ ((id ∉ nums l ∧ e = .returned (.int .i64 14) ∧ LkAt w' F C b sm la l n) ∨ (id ∈ nums l ∧ rdyB l id = false ∧ e = .returned (.int .i64 18) ∧ LkAt w' F C b sm la l n) ∨
    (id ∈ nums l ∧ rdyB l id = true ∧ e = .returned (.int .i64 0) ∧ LkAt w' F C b sm la (outL l id) (n + l.length)))
noncomputable def openR (l : List Ent) (id : Int) (k : Nat) (i : Int) : Nat := if i = id then 0 else opn l i - (if (nums ((outL l id).take k)).contains i = true ∧ wtB l i id = true then 1 else 0)
noncomputable def waitsR (l : List Ent) (id : Int) (k : Nat) (i j : Int) : Bool := wtB l i j && !((j == id) && (nums ((outL l id).take k)).contains i)
theorem take_nums_snoc {m : List Ent} {k : Nat} {e : Ent} (he : m[k]? = some e) (i : Int) : (nums (m.take (k + 1))).contains i = ((nums (m.take k)).contains i || (i == e.1)) := by
  rw [List.take_add_one, he]
  simp [nums]
  rfl
theorem take_not {m : List Ent} (hr : Rise m) {k : Nat} {e : Ent} (he : m[k]? = some e) : (nums (m.take k)).contains e.1 = false := by
  rw [Bool.eq_false_iff]
  intro h
  simp only [List.contains_eq_mem, decide_eq_true_eq] at h
  obtain ⟨f, hf⟩ := mem_nums.1 h
  obtain ⟨j, hj, hx⟩ := List.getElem_of_mem hf
  have hk := (List.getElem?_eq_some_iff.1 he)
  have hjk : j < k := by simp at hj; omega
  rw [List.getElem_take] at hx
  have := List.pairwise_iff_getElem.1 hr j k (by simp at hj; omega) hk.1 hjk
  rw [hx, hk.2] at this
  simp at this
theorem out_at {l : List Ent} {id : Int} {k : Nat} {e : Ent} (he : (outL l id)[k]? = some e) : e.1 ≠ id ∧ e ∈ l := by
  have := mem_out.1 (List.mem_of_getElem? he)
  exact ⟨this.2, this.1⟩
theorem opn_pos {l : List Ent} {i j : Int} (h : wtB l i j = true) : 1 ≤ opn l i := by
  unfold opn
  exact List.length_pos_iff.2 (fun e => by have := mem_waits.2 h; rw [e] at this; cases this)
theorem openR_no {l : List Ent} {id : Int} {k : Nat} {e : Ent} (he : (outL l id)[k]? = some e) (h : wtB l e.1 id = false) : openR l id (k + 1) = openR l id k := by
  funext i
  unfold openR
  rw [take_nums_snoc he]
  by_cases hi : i = e.1
  · subst hi
    simp [h]
  · have : (i == e.1) = false := by simpa using hi
    rw [this, Bool.or_false]
theorem waitsR_no {l : List Ent} {id : Int} {k : Nat} {e : Ent} (he : (outL l id)[k]? = some e) (h : wtB l e.1 id = false) : waitsR l id (k + 1) = waitsR l id k := by
  funext i j
  unfold waitsR
  rw [take_nums_snoc he]
  by_cases hi : i = e.1 ∧ j = id
  · obtain ⟨rfl, rfl⟩ := hi
    simp [h]
  · by_cases h2 : i = e.1
    · have : (j == id) = false := by simpa using fun e2 => hi ⟨h2, e2⟩
      rw [this]
      simp
    · have : (i == e.1) = false := by simpa using h2
      rw [this, Bool.or_false]
theorem openR_at {l : List Ent} (hr : Rise l) {id : Int} {k : Nat} {e : Ent} (he : (outL l id)[k]? = some e) : openR l id k e.1 = opn l e.1 := by
  unfold openR
  rw [if_neg (out_at he).1, take_not (hr.out id) he]
  simp
theorem waitsR_at {l : List Ent} (hr : Rise l) {id : Int} {k : Nat} {e : Ent} (he : (outL l id)[k]? = some e) : waitsR l id k e.1 id = wtB l e.1 id := by
  unfold waitsR
  rw [take_not (hr.out id) he]
  simp
theorem openR_step {l : List Ent} {id : Int} {k : Nat} {e : Ent} (he : (outL l id)[k]? = some e) (h : wtB l e.1 id = true) {g : Value → Option Value} (hg : OpenM (openR l id k) g) {c : Nat} (hc : opn l e.1 = c) :
    OpenM (openR l id (k + 1)) (updM g (.int .i64 e.1) (some (.int .i64 ((c : Int) - 1)))) := by
  intro i
  by_cases hi : i = e.1
  · subst hi
    rw [updM_same]
    unfold openR
    rw [if_neg (out_at he).1, take_nums_snoc he, hc]
    have := opn_pos h
    simp [h]
    omega
  · rw [updM_other _ _ (fun e1 => hi (by injection e1)), hg i]
    unfold openR
    rw [take_nums_snoc he]
    have : (i == e.1) = false := by simpa using hi
    rw [this, Bool.or_false]
theorem waitsR_step {l : List Ent} {id : Int} {k : Nat} {e : Ent} (he : (outL l id)[k]? = some e) {g : Value → Option Value} (hg : WaitsM (waitsR l id k) g) :
    WaitsM (waitsR l id (k + 1)) (updM g (.agg #[.int .i64 e.1, .int .i64 id]) none) := by
  refine ⟨fun i j => ?_, fun x u hu => ?_⟩
  · by_cases hij : i = e.1 ∧ j = id
    · obtain ⟨rfl, rfl⟩ := hij
      rw [updM_same]
      unfold waitsR
      rw [take_nums_snoc he]
      simp
    · rw [updM_other _ _ (fun e1 => hij (by injection e1 with e1; simp at e1; exact e1)), hg.1 i j]
      unfold waitsR
      rw [take_nums_snoc he]
      by_cases h2 : i = e.1
      · have : (j == id) = false := by simpa using fun e2 => hij ⟨h2, e2⟩
        rw [this]
        simp
      · have : (i == e.1) = false := by simpa using h2
        rw [this, Bool.or_false]
  · by_cases hx : x = .agg #[.int .i64 e.1, .int .i64 id]
    · subst hx
      rw [updM_same] at hu
      cases hu
    · rw [updM_other _ _ hx] at hu
      exact hg.2 x u hu
theorem openR_zero {l : List Ent} {id : Int} {g : Value → Option Value} (hg : OpenM (opn l) g) : OpenM (openR l id 0) (updM g (.int .i64 id) none) := by
  intro i
  unfold openR
  by_cases hi : i = id
  · subst hi
    rw [updM_same, if_pos rfl]
    rfl
  · rw [updM_other _ _ (fun e1 => hi (by injection e1)), if_neg hi, hg i]
    simp [nums]
theorem waitsR_zero (l : List Ent) (id : Int) : waitsR l id 0 = wtB l := by
  funext i j
  simp [waitsR, nums]
theorem openR_all {l : List Ent} (hr : Rise l) {id : Int} : openR l id (outL l id).length = opn (outL l id) := by
  funext i
  unfold openR
  rw [List.take_length]
  by_cases hi : i = id
  · rw [if_pos hi, hi, opn_not (out_not id)]
  · rw [if_neg hi]
    have h := opn_out hr hi
    by_cases hw : wtB l i id = true
    · have hm : i ∈ nums (outL l id) := mem_nums_out.2 ⟨Classical.byContradiction (fun hh => by rw [wtB_not_l hh] at hw; cases hw), hi⟩
      rw [if_pos ⟨by simpa using hm, hw⟩]
      rw [if_pos hw] at h
      omega
    · rw [if_neg (fun hh => hw hh.2)]
      rw [if_neg hw] at h
      omega
theorem waitsR_all {l : List Ent} {id : Int} (hrd : rdyB l id = true) : waitsR l id (outL l id).length = wtB (outL l id) := by
  funext i j
  unfold waitsR
  rw [List.take_length, wtB_out]
  cases hw : wtB l i j with
  | false => rfl
  | true =>
    have hi : i ≠ id := fun e => by subst e; rw [rdyB_iff.1 hrd j] at hw; cases hw
    have hm : i ∈ nums (outL l id) := mem_nums_out.2 ⟨Classical.byContradiction (fun hh => by rw [wtB_not_l hh] at hw; cases hw), hi⟩
    have h1 : (nums (outL l id)).contains i = true := by simpa using hm
    have h2 : (i == id) = false := by simpa using hi
    rw [h1, h2]
    simp
theorem FeetM.out {w : World} {C : Nat → Prop} {l : List Ent} {g : Value → Option Value} (h : FeetM w C l g) (id : Int) : FeetM w C (outL l id) (updM g (.int .i64 id) none) := by
  refine ⟨fun i hi => ?_, fun e he => ?_⟩
  · by_cases e : i = id
    · subst e
      exact updM_same _ _ _
    · rw [updM_other _ _ (fun e1 => e (by injection e1))]
      exact h.1 i (fun hh => hi (mem_nums_out.2 ⟨hh, e⟩))
  · have hm := mem_out.1 he
    obtain ⟨v, h1, r⟩ := h.2 e hm.1
    exact ⟨v, by rw [updM_other _ _ (fun e1 => hm.2 (by injection e1))]; exact h1, r⟩
theorem LineOk.out {sm : Bool} {la : Int} {l : List Ent} (h : LineOk sm la l) (id : Int) : LineOk sm la (outL l id) := ⟨h.1.out id, fun e he => h.2.1 e (mem_out.1 he).1, fun e he => h.2.2 e (mem_out.1 he).1⟩
/-- The line without one, its maps half turned. -/
theorem rel_mid {wx wy wz wu : World} {F C : Nat → Prop} {b n m1 m2 m3 g cap : Nat} {sm : Bool} {la id : Int} {l : List Ent} {g1 g2 g3 g1' g2' : Value → Option Value} (h : LkIn wx F C b sm la l n m1 m2 m3 (.slice (some ⟨g, 0, none⟩) l.length cap) g1 g2 g3)
    (hm1 : MapAt Try.prog wy 3 m1 n g1') (h1 : Only (fun k => k = m1) wx wy) (hm2 : MapAt Try.prog wz 3 m2 n g2') (h2 : Only (fun k => k = m2) wy wz)
    (hown : wu.ownsRow 0 3 1 (.slice (some ⟨g, 0, none⟩) (outL l id).length cap) (outL l id).length ((nums (outL l id)).map (Value.int .i64))) (h3 : Only (fun k => k = g) wz wu) (hg : g1' = updM g1 (.int .i64 id) none) :
    LkIn (wu.setCell ⟨b, 2, none⟩ (.slice (some ⟨g, 0, none⟩) (outL l id).length cap)) F C b sm la (outL l id) n m1 m2 m3 (.slice (some ⟨g, 0, none⟩) (outL l id).length cap) g1' g2' g3 ∧ Only F wx (wu.setCell ⟨b, 2, none⟩ (.slice (some ⟨g, 0, none⟩) (outL l id).length cap)) := by
  have ho4 := Only.set1 wu b 2 (.slice (some ⟨g, 0, none⟩) (outL l id).length cap)
  have hnl := h.nl g rfl
  have hnb := h.nb
  have fg := h.fl g rfl
  have oA : Only F wx (wu.setCell ⟨b, 2, none⟩ (.slice (some ⟨g, 0, none⟩) (outL l id).length cap)) :=
    (((h1.mono (fun i _ e => by subst e; exact h.f1)).trans h2 (fun i _ e => by subst e; exact h.f2)).trans h3 (fun i _ e => by subst e; exact fg)).trans ho4 (fun i _ e => by subst e; exact h.fb)
  have hb3 : wu.heap[b]? = some (.cells #[.bool sm, .int .i64 la, .slice (some ⟨g, 0, none⟩) l.length cap, .map (some m1), .map (some m2), .map (some m3)] 57 (0, 0)) :=
    h3.heap (h2.heap (h1.heap h.blk (fun e => hnb.1 e.symm)) (fun e => hnb.2.1 e.symm)) (fun e => hnl.1 e.symm)
  have hb4 := heap_setCell_same wu b 2 _ _ (.slice (some ⟨g, 0, none⟩) (outL l id).length cap) hb3
  subst hg
  refine ⟨{ blk := by simpa using hb4, own := own_only hown ho4 (fun x hx e => hnl.1 (by simp [Value.ownBlock] at hx; omega)), mp1 := ((hm1.only h2 h.d12).only h3 hnl.2.1).only ho4 hnb.1, mp2 := (hm2.only h3 hnl.2.2.1).only ho4 hnb.2.1, mp3 := (((h.mp3.only h1 (fun e => h.d13 e.symm)).only h2 (fun e => h.d23 e.symm)).only h3 hnl.2.2.2).only ho4 hnb.2.2, d12 := h.d12, d13 := h.d13, d23 := h.d23, fb := h.fb, f1 := h.f1, f2 := h.f2, f3 := h.f3, fl := fun k hk => h.fl k hk, flt := fun k hk => Nat.lt_of_lt_of_le (h.flt k hk) oA.size, clt := fun k hk => ⟨Nat.lt_of_lt_of_le (h.clt k hk).1 oA.size, (h.clt k hk).2⟩, line := h.line.out id, feet := (h.feet.only oA (fun k hk => (h.clt k hk).2)).out id }, oA⟩

theorem delL_ok (w : World) (B g cap : Nat) (id : Int) (l : List Ent) (hown : w.ownsRow 0 3 1 (.slice (some ⟨g, 0, none⟩) l.length cap) l.length ((nums l).map (Value.int .i64))) (hB : w.cell? ⟨B, 0, none⟩ = some (.int .i64 id)) (hne : B ≠ g) (hl : l.length ≤ 1000000) :
    Calls Try.prog 28 #[.slice (some ⟨g, 0, none⟩) l.length cap, .func (.func 29) #[] #[.pointer (some ⟨B, 0, none⟩)]] w fun e w' => e = .returned (.slice (some ⟨g, 0, none⟩) (outL l id).length cap) ∧
      w'.ownsRow 0 3 1 (.slice (some ⟨g, 0, none⟩) (outL l id).length cap) (outL l id).length ((nums (outL l id)).map (Value.int .i64)) ∧ Only (fun k => k = g) w w' := by
  have e1 : (nums l).length = l.length := by simp [nums]
  have e2 : (nums (outL l id)).length = (outL l id).length := by simp [nums]
  have h := delF_ok w B g cap id (nums l) (by rw [e1]; exact hown) hB hne (by omega)
  rw [e1] at h
  refine h.mono ?_
  rintro e w' ⟨h1, h2, h3⟩
  rw [← nums_outL, e2] at h1
  rw [← nums_outL, e2] at h2
  exact ⟨h1, h2, h3⟩

/-- While Release goes round. -/
def RelR (wk : World) (F C : Nat → Prop) (b : Nat) (sm : Bool) (la id : Int) (l : List Ent) (n m1 m2 m3 : Nat) (lv : Value) (g1 : Value → Option Value) (k : Nat) (w : World) : Prop :=
  ∃ g2 g3, LkIn w F C b sm la (outL l id) (n + k) m1 m2 m3 lv g1 g2 g3 ∧ OpenM (openR l id k) g2 ∧ WaitsM (waitsR l id k) g3 ∧ Only F wk w

set_option maxRecDepth 100000 in
set_option maxHeartbeats 1000000 in
theorem rel_ok (w : World) (F C : Nat → Prop) (b n : Nat) (sm : Bool) (la : Int) (l : List Ent) (id : Int) (h : LkAt w F C b sm la l n) (hl : l.length ≤ 100000) (hn : n ≤ 1000000000) (hid : I64 id) :
    Calls Try.prog 11 #[.pointer (some ⟨b, 0, none⟩), .int .i64 id] w (RelP F C b sm la l n id w) := by
  obtain ⟨m1, m2, m3, lv, g1, g2, g3, h, ho, hw⟩ := h
  obtain ⟨A2, c2', rfl⟩ := ownsRow_slice h.own
  have hB := box1 w (.cells #[.int .i64 id] 3)
  have hbn := heap_alloc_new w (.cells #[.int .i64 id] 3)
  have hsz : w.heap.size < (w.alloc (.cells #[.int .i64 id] 3)).heap.size := by simp
  have h1 := h.below hB
  have hF0 : ¬ F w.heap.size := fun hh => by have := h.flt _ hh; omega
  have HH := Lib.hid (And.intro h (And.intro ho (And.intro hw (And.intro hid hF0))))
  clear h ho hw hid hF0
  go_enter Try.func11, Try.ntmps11
  go_upto_region 1 with fail
  generalize w.alloc (.cells #[.int .i64 id] 3) = wb at hB hbn hsz h1 ⊢
  obtain ⟨q0, q1, q2, q3, q4, q5⟩ := h1.cells
  have qb := blk_cell hbn
  have hlb : b < wb.heap.size := h1.flt b h1.fb
  have hbox : ∃ ub uv, (g1 (.int .i64 id)).getD (.agg #[.slice none 0 0]) = .agg #[uv] ∧ (g1 (.int .i64 id)).isSome = ub ∧ (∃ A n c, uv = .slice A n c) ∧ (ub = true ↔ id ∈ nums l) := by
    by_cases hm : id ∈ nums l
    · obtain ⟨f, hf⟩ := mem_nums.1 hm
      obtain ⟨v, hv, hrd, _⟩ := h1.feet.2 _ hf
      obtain ⟨A1, c1, rfl, _, _⟩ := hrd.slice
      exact ⟨true, _, by rw [hv]; rfl, by rw [hv]; rfl, ⟨_, _, _, rfl⟩, by simp [hm]⟩
    · have hv := h1.feet.1 id hm
      exact ⟨false, _, by rw [hv]; rfl, by rw [hv]; rfl, ⟨_, _, _, rfl⟩, by simp [hm]⟩
  obtain ⟨ub, uv, e1, e2, ⟨A1, n1, c1, rfl⟩, e3⟩ := hbox
  have H1 := Lib.hid (And.intro h1 (And.intro hB (And.intro hbn (And.intro hsz (And.intro e1 (And.intro e2 e3))))))
  clear h1 hB hbn hsz e1 e2 e3 q0 q1 q2 q4 q5
  go_upto_region 3 with fail
  refine wp_region_held_drew (S := (fun w' => Below wb.heap.size wb w')) (by kernel_rfl) (Below.refl _ _).drew (fun hHeld => ?_)
  refine takeL (i := 0) (v := ?_) rfl (by kernel_rfl) (by kernel_rfl) (by kernel_rfl) (fun _ _ _ h => h) (by rfl) (fun wS hSw => ?_) hHeld ?_
  rotate_left
  · go_simp; try with_reducible rfl
  try simp only [Act.put, List.setIfInBounds_toArray, List.set_cons_zero, List.set_cons_succ]
  refine takeL (i := 1) (v := ?_) rfl (by kernel_rfl) (by kernel_rfl) (by kernel_rfl) (fun _ _ _ h => h) (by rfl) (fun wS hSw => ?_) hHeld ?_
  rotate_left
  · go_simp; try with_reducible rfl
  try simp only [Act.put, List.setIfInBounds_toArray, List.set_cons_zero, List.set_cons_succ]
  refine takeL (i := 2) (v := ?_) rfl (by kernel_rfl) (by kernel_rfl) (by kernel_rfl) (fun _ _ _ h => h) (by rfl) (fun wS hSw => ?_) hHeld ?_
  rotate_left
  · go_simp; try with_reducible rfl
  try simp only [Act.put, List.setIfInBounds_toArray, List.set_cons_zero, List.set_cons_succ]
  refine takeL (i := 3) (v := ?_) rfl (by kernel_rfl) (by kernel_rfl) (by kernel_rfl) (fun _ _ _ h => h) (by rfl) (fun wS hSw => ?_) hHeld ?_
  rotate_left
  · have s1 := (Below.cell hSw (p := ⟨b, 3, none⟩) hlb).trans q3; go_simp; try with_reducible rfl
  try simp only [Act.put, List.setIfInBounds_toArray, List.set_cons_zero, List.set_cons_succ]
  refine takeL (i := 4) (v := ?_) rfl (by kernel_rfl) (by kernel_rfl) (by kernel_rfl) (fun _ _ _ h => h) (by rfl) (fun wS hSw => ?_) hHeld ?_
  rotate_left
  · have s2 := (Below.cell hSw (p := ⟨w.heap.size, 0, none⟩) H1.out.2.2.2.1).trans qb; go_simp; try with_reducible rfl
  try simp only [Act.put, List.setIfInBounds_toArray, List.set_cons_zero, List.set_cons_succ]
  refine takeL (i := 5) (v := ?_) rfl (by kernel_rfl) (by kernel_rfl) (by kernel_rfl) (fun _ _ _ h => h) (by rfl) (fun wS hSw => ?_) hHeld ?_
  rotate_left
  · have hlk := (H1.out.1.mp1.below hSw).look_ok lawI Try.underlying53 (Try.zeroFoot _) (keyI HH.out.2.2.2.1); rw [H1.out.2.2.2.2.1, H1.out.2.2.2.2.2.1] at hlk; go_simp; try with_reducible rfl
  try simp only [Act.put, List.setIfInBounds_toArray, List.set_cons_zero, List.set_cons_succ]
  refine takeL (i := 6) (v := ?_) rfl (by kernel_rfl) (by kernel_rfl) (by kernel_rfl) (fun _ _ _ h => h) (by rfl) (fun wS hSw => ?_) hHeld ?_
  rotate_left
  · go_simp; try with_reducible rfl
  try simp only [Act.put, List.setIfInBounds_toArray, List.set_cons_zero, List.set_cons_succ]
  refine takeL (i := 7) (v := ?_) rfl (by kernel_rfl) (by kernel_rfl) (by kernel_rfl) (fun _ _ _ h => h) (by rfl) (fun wS hSw => ?_) hHeld ?_
  rotate_left
  · go_simp; try with_reducible rfl
  try simp only [Act.put, List.setIfInBounds_toArray, List.set_cons_zero, List.set_cons_succ]
  refine takeL (i := 8) (v := ?_) rfl (by kernel_rfl) (by kernel_rfl) (by kernel_rfl) (fun _ _ _ h => h) (by rfl) (fun wS hSw => ?_) hHeld ?_
  rotate_left
  · go_simp; try with_reducible rfl
  try simp only [Act.put, List.setIfInBounds_toArray, List.set_cons_zero, List.set_cons_succ]
  refine wpAnyH_ready (rs := [9]) (by kernel_rfl) (by simp) (consL (i := 9) rfl (fun K hK => ?_) AllReadyH.nil)
  go_simp
  refine hK.out _ _ (hHeld.alloc (by simp) _) (fun hHeld2 => ?_)
  clear hK K hHeld
  have hHeld := hHeld2
  clear hHeld2
  try simp only [Act.put, List.setIfInBounds_toArray, List.set_cons_zero, List.set_cons_succ]
  refine wpAnyH_ready (rs := [10]) (by kernel_rfl) (by simp) (consL (i := 10) rfl (fun K hK => ?_) AllReadyH.nil)
  go_simp
  refine hK.out _ _ (((Below.refl _ _).alloc (Nat.le_refl _) _).drew) (fun hHeld2 => ?_)
  clear hK K hHeld
  have hHeld := hHeld2
  clear hHeld2
  try simp only [Act.put, List.setIfInBounds_toArray, List.set_cons_zero, List.set_cons_succ]
  refine takeL (i := 11) (v := ?_) rfl (by kernel_rfl) (by kernel_rfl) (by kernel_rfl) (fun _ _ _ h => h) (by rfl) (fun wS hSw => ?_) hHeld ?_
  rotate_left
  · go_simp; try with_reducible rfl
  try simp only [Act.put, List.setIfInBounds_toArray, List.set_cons_zero, List.set_cons_succ]
  refine wpAnyH_done (by kernel_rfl) ?_ _
  clear hHeld
  have hx := ((Below.refl wb.heap.size wb).alloc (Nat.le_refl _) (.cells #[.slice A1 n1 c1] 35)).drew
  generalize (wb.alloc (.cells #[.slice A1 n1 c1] 35)).drew = wx at hx ⊢
  have h2 := H1.out.1.below hx
  have hb2 : wx.heap[w.heap.size]? = some (.cells #[.int .i64 id] 3 (0, 0)) := by rw [hx.block _ H1.out.2.2.2.1]; exact H1.out.2.2.1
  have hon : Only F w wx := Only.of_below (H1.out.2.1.trans (hx.mono H1.out.2.1.size)) F
  clear q3 qb hlb
  obtain ⟨q0, q1, q2, q3, q4, q5⟩ := h2.cells
  have qb := blk_cell hb2
  have H2 := Lib.hid (And.intro h2 (And.intro hb2 hon))
  clear h2 hb2 hon hx q0 q1 q2
  cases ub with
  | false =>
    go_wp2_with fail
    go_ret
    exact ⟨H2.out.2.2, .inl ⟨fun hh => by have := H1.out.2.2.2.2.2.2.2 hh; simp at this, rfl, m1, m2, m3, _, g1, g2, g3, H2.out.1, HH.out.2.1, HH.out.2.2.1⟩⟩
  | true =>
    have hmem : id ∈ nums l := H1.out.2.2.2.2.2.2.1 (by trivial)
    go_wp2_with fail
    refine (lready_ok wx b m2 n g2 id (opn l id) q4 H2.out.1.mp2 HH.out.2.2.2.1 (HH.out.2.1 id)).mono ?_
    rintro e w1 ⟨rfl, rfl⟩
    have hrb : rdyB l id = (opn l id == 0) := rfl
    cases hr : (opn l id == 0) with
    | false =>
      rw [hr] at hrb
      have HR := Lib.hid (And.intro hrb hmem)
      clear hr hrb hmem
      go_wp2_with fail
      go_ret
      exact ⟨H2.out.2.2, .inr (.inl ⟨HR.out.2, HR.out.1, rfl, m1, m2, m3, _, g1, g2, g3, H2.out.1, HH.out.2.1, HH.out.2.2.1⟩)⟩
    | true =>
      rw [hr] at hrb
      have hne : l ≠ [] := fun e => by subst e; cases hmem
      have hlp := List.length_pos_iff.2 hne
      obtain ⟨g, cap, hv, hg0, hgl⟩ := H2.out.1.own.form (by omega)
      injection hv with hv1 hv2 hv3
      subst hv1 hv3
      have HR := Lib.hid (And.intro hrb hmem)
      clear hr hrb hmem hne hv2 hg0 hgl hlp
      go_upto_region 8 with fail
      go_still_tail 5, (by kernel_rfl)
      change wpList _ _ _ _ _ wx.drew
      go_upto_region 9 with (at_delete; go_loud (refine wpList_drop (key := .int .i64 id) _ rfl _ _ 53 3 rfl lawI Try.underlying53 rfl H2.out.1.mp1.drew rfl (keyI HH.out.2.2.2.1) ?_); intro wy hmy hoy)
      have hoy' := hoy.undrew
      have kb : wy.heap[b]? = _ := hoy'.heap H2.out.1.blk (fun e => H2.out.1.nb.1 e.symm)
      have kx : wy.heap[w.heap.size]? = _ := hoy'.heap H2.out.2.1 (fun e => HH.out.2.2.2.2 (e ▸ H2.out.1.f1))
      have k4 : wy.cell? ⟨b, 4, none⟩ = some (.map (some m2)) := by simp [World.cell?, kb]
      have k0 := blk_cell kx
      have hmp2 := H2.out.1.mp2.only hoy' (fun e => H2.out.1.d12 e.symm)
      have HY := Lib.hid (And.intro hmy (And.intro hoy' (And.intro kb (And.intro kx hmp2))))
      clear hmy hoy hoy' kb kx hmp2 q3 q4 q5 qb
      go_still_tail 5, (by kernel_rfl)
      change wpList _ _ _ _ _ wy.drew
      go_upto_region 10 with (at_delete; go_loud (refine wpList_drop (key := .int .i64 id) _ rfl _ _ 54 3 rfl lawI Try.underlying54 rfl HY.out.2.2.2.2.drew rfl (keyI HH.out.2.2.2.1) ?_); intro wz hmz hoz)
      have hoz' := hoz.undrew
      have kb : wz.heap[b]? = _ := hoz'.heap HY.out.2.2.1 (fun e => H2.out.1.nb.2.1 e.symm)
      have kx : wz.heap[w.heap.size]? = _ := hoz'.heap HY.out.2.2.2.1 (fun e => HH.out.2.2.2.2 (e ▸ H2.out.1.f2))
      have k2 : wz.cell? ⟨b, 2, none⟩ = some (.slice (some ⟨g, 0, none⟩) l.length c2') := by simp [World.cell?, kb]
      have hownz := own_only (own_only H2.out.1.own HY.out.2.1 (fun x hx e => (H2.out.1.nl x hx).2.1 e.symm)) hoz' (fun x hx e => (H2.out.1.nl x hx).2.2.1 e.symm)
      have hgb : w.heap.size ≠ g := fun e => HH.out.2.2.2.2 (e ▸ H2.out.1.fl g rfl)
      have HZ := Lib.hid (And.intro hmz (And.intro hoz' (And.intro kb (And.intro kx hownz))))
      clear hmz hoz hoz' kb kx hownz k0 k4
      go_wp2_with fail
      refine (delL_ok wz w.heap.size g c2' id l HZ.out.2.2.2.2 (blk_cell HZ.out.2.2.2.1) hgb (by omega)).mono ?_
      rintro e wu ⟨rfl, hownu, hou⟩
      have kb : wu.heap[b]? = _ := hou.heap HZ.out.2.2.1 (fun e => (H2.out.1.nl g rfl).1 e.symm)
      have kx : wu.heap[w.heap.size]? = _ := hou.heap HZ.out.2.2.2.1 (fun e => hgb e)
      have k2' : wu.cell? ⟨b, 2, none⟩ = some (.slice (some ⟨g, 0, none⟩) l.length c2') := by simp [World.cell?, kb]
      have kf : wu.frozen? ⟨b, 2, none⟩ = false := by simp [World.frozen?, kb]
      obtain ⟨hmid, hmo⟩ := rel_mid H2.out.1 HY.out.1 HY.out.2.1 HZ.out.1 HZ.out.2.1 hownu hou rfl
      have kx2 : (wu.setCell ⟨b, 2, none⟩ (.slice (some ⟨g, 0, none⟩) (outL l id).length c2')).heap[w.heap.size]? = some (.cells #[.int .i64 id] 3 (0, 0)) := (Only.set1 wu b 2 _).heap kx (fun e => HH.out.2.2.2.2 (e ▸ H2.out.1.fb))
      have HU := Lib.hid (And.intro hmid (And.intro hmo kx2))
      clear hownu hou kb kx k2 hmid hmo kx2
      go_upto_region 11 with fail
      clear k2' kf
      generalize wu.setCell ⟨b, 2, none⟩ (.slice (some ⟨g, 0, none⟩) (outL l id).length c2') = wk at HU ⊢
      have HK := HU
      clear HU
      obtain ⟨_, _, k2, _, _, _⟩ := HK.out.1.cells
      have hlo := outL_le l id
      obtain ⟨no, hno⟩ : ∃ no, (outL l id).length = no := ⟨_, rfl⟩
      rw [hno] at k2 hlo
      have hkin := HK.out.1
      rw [hno] at hkin
      have HKI := Lib.hid (And.intro hkin (And.intro HK.out.2 hno))
      clear HK hkin
      rw [hno]
      clear hno
      go_wp2_with fail
      go_loopw [51] (fun i wr => ∃ k, k ≤ no ∧ i = .int .i64 (k : Int) ∧ RelR wk F C b sm la id l n m1 m2 m3 (.slice (some ⟨g, 0, none⟩) no c2') (updM g1 (.int .i64 id) none) k wr) (fun i _ => no - (intOf i).toNat)
      case atStart => exact ⟨0, Nat.zero_le _, rfl, _, g3, HKI.out.1, openR_zero HH.out.2.1, by rw [waitsR_zero]; exact HH.out.2.2.1, Only.refl _ _⟩
      case round =>
        obtain ⟨k, hk, rfl, h2, h3, hin, hop, hwt, hon⟩ := hrel
        have hbx : wr.heap[w.heap.size]? = some (.cells #[.int .i64 id] 3 (0, 0)) := hon.heap HKI.out.2.1.2 (fun hh => HH.out.2.2.2.2 hh)
        have HW := Lib.hid (And.intro hin (And.intro hop (And.intro hwt (And.intro hon hbx))))
        clear hop hwt hon
        by_cases hlt : k < no
        · obtain ⟨x, hx⟩ : ∃ x, (outL l id)[k]? = some x := ⟨_, List.getElem?_eq_getElem (by rw [HKI.out.2.2]; exact hlt)⟩
          obtain ⟨gl, hgl, cx⟩ := (hin.at_ hx).2
          injection hgl with hgl
          injection hgl with hgl
          subst hgl
          have hix := hin.line.2.2 x (List.mem_of_getElem? hx)
          obtain ⟨q0, q1, q2', q3, q4, q5⟩ := hin.cells
          have cbx := blk_cell hbx
          have hsb : w.heap.size < wr.heap.size := (Array.getElem?_eq_some_iff.1 hbx).1
          have hp1 := box1 wr (.cells #[.int .i64 x.1, .int .i64 id] 72)
          have hp2 := heap_alloc_new wr (.cells #[.int .i64 x.1, .int .i64 id] 72)
          have hp3 : wr.heap.size < (wr.alloc (.cells #[.int .i64 x.1, .int .i64 id] 72)).heap.size := by simp
          have HX := Lib.hid (And.intro hx (And.intro hix (And.intro hp1 (And.intro hp2 hp3))))
          clear hin hx hix hbx q0 q1 q2' q3 q4 q5 hp1 hp2 hp3
          go_wp2_with fail
          refine (on_ok _ b m3 (n + k) h3 x.1 id (wtB l x.1 id) ((HX.out.2.2.1.cell (p := ⟨b, 5, none⟩) (HW.out.1.flt b HW.out.1.fb)).trans HW.out.1.cells.2.2.2.2.2) (HW.out.1.mp3.below HX.out.2.2.1) HX.out.2.1 HH.out.2.2.2.1 (by rw [HW.out.2.2.1.1, waitsR_at HH.out.1.line.1 HX.out.1]) (fun u hu => HW.out.2.2.1.2 _ u hu)).mono ?_
          rintro e w1 ⟨rfl, hb1⟩
          have hbw : Below wr.heap.size wr w1 := unbox1 hb1
          have hpb : w1.heap[wr.heap.size]? = some (.cells #[.int .i64 x.1, .int .i64 id] 72 (0, 0)) := by rw [hb1.block _ HX.out.2.2.2.2]; exact HX.out.2.2.2.1
          have hin := HW.out.1.below hbw
          have hon : Only F wk w1 := HW.out.2.2.2.1.trans (Only.of_below hbw F) (fun _ _ e => e)
          cases hwb : wtB l x.1 id with
          | true =>
            obtain ⟨p0, p1, p2, p3, p4, p5⟩ := hin.cells
            obtain ⟨c0, c1', _, _⟩ := blk_cell2 hpb
            have HC := Lib.hid (And.intro hwb (And.intro hin hon))
            clear hwb hb1 hbw hpb hin hon p0 p1 p2 p3 p4
            go_upto_region 16 with fail
            go_still_tail 5, (by kernel_rfl)
            change wpList _ _ _ _ _ w1.drew
            go_upto_region 17 with (at_delete; go_loud (refine wpList_drop (key := .agg #[.int .i64 x.1, .int .i64 id]) _ rfl _ _ 55 72 rfl lawP Try.underlying55 rfl HC.out.2.1.mp3.drew rfl (keyP HX.out.2.1 HH.out.2.2.2.1) ?_); intro w2 hm2 ho2)
            have ho2' := ho2.undrew
            have hin2 := HC.out.2.1.set3 ho2' (Nat.le_refl _) hm2
            obtain ⟨_, _, _, _, s4, _⟩ := hin2.cells
            have hon2 : Only F wk w2 := HC.out.2.2.trans ho2' (fun i _ e => by subst e; exact HC.out.2.1.f3)
            have hc0 := HW.out.2.1 x.1
            rw [openR_at HH.out.1.line.1 HX.out.1] at hc0
            have hpos := opn_pos HC.out.1
            have hcl : opn l x.1 ≤ l.length := by
              unfold opn waits
              refine Nat.le_trans (List.length_filter_le _ _) ?_
              simp [nums]
            obtain ⟨cnt, hcnt⟩ : ∃ cnt, opn l x.1 = cnt := ⟨_, rfl⟩
            rw [hcnt] at hc0 hpos hcl
            have HC2 := Lib.hid (And.intro hin2 (And.intro hon2 (And.intro hc0 hcnt)))
            clear hm2 ho2 ho2' hin2 hon2 hc0 hcnt c0 c1' p5
            go_wp2_with (first | (at_lookup; go_loud (refine wpList_look _ rfl _ _ 54 rfl lawI Try.underlying54 (Try.zeroInt _) rfl HC2.out.1.mp2 rfl (keyI HX.out.2.1) (.int .i64 (cnt : Int)) HC2.out.2.2.1 ?_)) | (at_mapUpdate; go_loud (refine wpList_store (key := .int .i64 x.1) _ rfl _ _ _ 54 rfl lawI Try.underlying54 rfl HC2.out.1.mp2 (by unfold maxLen; omega) rfl rfl (keyI HX.out.2.1) ?_); intro w3 hm3 ho3))
            go_roundw
            case rel =>
              exact ⟨k + 1, by omega, by go_num, _, _, HC2.out.1.set2 ho3 (Nat.le_succ _) hm3, openR_step HX.out.1 HC.out.1 HW.out.2.1 HC2.out.2.2.2, waitsR_step HX.out.1 HW.out.2.2.1, HC2.out.2.1.trans ho3 (fun i _ e => by subst e; exact HC2.out.1.f2)⟩
            case measure => simp [intOf]; omega
          | false =>
            have HC := Lib.hid (And.intro hwb (And.intro hin hon))
            clear hwb hb1 hbw hpb hin hon
            go_wp2_with fail
            go_roundw
            case rel => exact ⟨k + 1, by omega, by go_num, _, _, HC.out.2.1.moren (by omega), by rw [openR_no HX.out.1 HC.out.1]; exact HW.out.2.1, by rw [waitsR_no HX.out.1 HC.out.1]; exact HW.out.2.2.1, HC.out.2.2⟩
            case measure => simp [intOf]; omega
        · have hkl : k = no := by omega
          subst hkl
          clear hin hbx
          go_wp2_with fail
          go_ret
          have hlen := HKI.out.2.2
          have hop := HW.out.2.1
          have hwt := HW.out.2.2.1
          rw [← hlen, openR_all HH.out.1.line.1] at hop
          rw [← hlen, waitsR_all HR.out.1] at hwt
          refine ⟨H2.out.2.2.trans (HKI.out.2.1.1.trans HW.out.2.2.2.1 (fun _ _ e => e)) (fun _ _ e => e), .inr (.inr ⟨HR.out.2, HR.out.1, rfl, ?_⟩)⟩
          exact LkAt.moren ⟨m1, m2, m3, _, _, h2, h3, HW.out.1, hop, hwt⟩ (by omega)

end Go.Proofs.Ytihjcfifakcpgaa
