/- Join, the chapter's example, Few. -/
import Derived.Test.YtihjcfifakcpgaaGreatDoorFootR
import Derived.Test.YtihjcfifakcpgaaGreatDoorFtS
import Derived.Test.YtihjcfifakcpgaaGreatDoorLift
import Derived.Test.YtihjcfifakcpgaaGreatDoorFoot
import Derived.Deep.Slices
import Derived.Deep.Fields
namespace Go.Proofs.YtihjcfifakcpgaaGreatDoor
set_option maxRecDepth 100000
open Go.RowKit

/-- A block that holds claims, one behind the other, reads as them. -/
theorem cl_of_block {w : World} {b : Nat} {l : List Cl} {cs : Array Value} {t : TypeId} {F : Nat → Prop} (h : w.heap[b]? = some (.cells cs t (0, 0))) (he : cs.toList = (l.map Cl.cells).flatten) (hF : F b) (hl : l.length ≤ maxLen) : ClRd w F (.slice (some ⟨b, 0, none⟩) l.length l.length) l := by
  refine ⟨_, _, _, rfl, by simp, Nat.le_refl _, hl, fun _ => ⟨b, 0, rfl, hF, fun i x hi j u hj => ?_⟩⟩
  have h1 := flat_at (cl_len l) i x hi j u hj
  rw [← he] at h1
  rw [Nat.zero_add]
  simp [World.cell?, h]
  simpa using h1

theorem fresh_rd {l : List Cl} {w' : World} {base : Nat} {A : Option Addr} {c : Nat} (h : w'.ownsRow base 74 5 (.slice A l.length c) l.length (l.map Cl.cells).flatten) : ClRd w' (fun _ => True) (.slice A l.length c) l :=
  RdK.of_own h (cl_len _) (by decide) (fun _ _ => trivial)

theorem step_append_rdk {P : Program} {w : World} {ops : Array Oper} {o : Oper} {a : Act} {K : Act → World → Prop} {Q : Exit → Act → World → Prop} {E : Prop} (hgd : o.guard = none) (s x : Operand) (t : TypeId)
    (ho : o.op = .call { callee := .builtin .append, args := #[s, x], argTypes := #[t, t] })
    (base : Nat) (e : TypeId) (i : TypeInfo) (z : Value) (k bytes : Nat) (ht : P.underlying t = some (.slice e)) (hi : P.info? e = some i) (hz : i.zero = some z)
    (hsize : i.size = k) (hby : i.bytes = bytes) (hzs : z.cells.size = k) (hk0 : 0 < k)
    (v : Value) (n : Nat) (xs : List Value) (hs : a.eval s = v) (hown : w.ownsRow base e k v n xs) (F : Nat → Prop) (vx : Value) (news : List (List Value)) (hx : a.eval x = vx) (hr : RdK k w F vx news) (hk : ∀ y ∈ news, y.length = k) (h1 : ∀ u ∈ news.flatten, u.oneCell' = true)
    (hbytes : (n + news.length) * bytes ≤ 140737488355328) (h63 : n + news.length ≤ maxLen) (hbase : base ≤ w.heap.size)
    (h : ∀ v' w', w'.ownsRow base e k v' (n + news.length) (xs ++ news.flatten) → w.grownBy w' v.ownBlock → (v'.ownBlock = v.ownBlock ∨ v'.ownBlock = some w.heap.size) → K (a.put o.dst v') w') :
    if Region.wanted o (yielded ops a.tmps) = true then Oper.wp P o a w K Q else E := by
  have hw : Region.wanted o (yielded ops a.tmps) = true := by simp [Region.wanted, hgd]
  rw [if_pos hw]
  obtain ⟨v', w', hrun, h2, h3, h4⟩ := run_append_rdk (P := P) w base t o.type e i z k bytes ht hi hz hsize hby hzs hk0 v n xs hown F vx news hr hk h1 hbytes h63 hbase
  unfold Oper.wp execOp
  simp only [ho, resolve, invoke, builtin, Sem.run_bind, Sem.run_pure, Result.andThen_ok, List.map_toArray, List.map_cons, List.map_nil, hs, hx, hrun]
  exact h v' w' h2 h3 h4

/-- What New hands back, with names for what lies in the result. -/
def NewV (l : List Cl) (w : World) (v : Value) (n : Int) (w' : World) : Prop :=
  Below w.heap.size w w' ∧ ((errOf l ≠ 0 ∧ v = .slice none 0 0 ∧ n = errOf l) ∨ (errOf l = 0 ∧ ∃ out, IsForm l out ∧ ((64 < out.length ∧ v = .slice none 0 0 ∧ n = 23) ∨
    (out.length ≤ 64 ∧ n = 0 ∧ ∃ A c, v = .slice A out.length c ∧ w'.ownsRow w.heap.size 74 5 (.slice A out.length c) out.length (out.map Cl.cells).flatten))))
theorem NewP.named {l : List Cl} {w w' : World} {e : Ending} (h : NewP l w e w') : ∃ v n, e = .returned (.tuple #[.agg #[v], .int .i64 n]) ∧ NewV l w v n w' := by
  obtain ⟨hb, ⟨h1, rfl⟩ | ⟨h1, out, h2, ⟨h3, rfl⟩ | ⟨h3, A, c, rfl, h4⟩⟩⟩ := h
  · exact ⟨_, _, rfl, hb, .inl ⟨h1, rfl, rfl⟩⟩
  · exact ⟨_, _, rfl, hb, .inr ⟨h1, out, h2, .inl ⟨h3, rfl, rfl⟩⟩⟩
  · exact ⟨_, _, rfl, hb, .inr ⟨h1, out, h2, .inr ⟨h3, rfl, A, c, rfl, h4⟩⟩⟩
theorem NewV.unname {l : List Cl} {w w' : World} {v : Value} {n : Int} (h : NewV l w v n w') : NewP l w (.returned (.tuple #[.agg #[v], .int .i64 n])) w' := by
  obtain ⟨hb, ⟨h1, rfl, rfl⟩ | ⟨h1, out, h2, ⟨h3, rfl, rfl⟩ | ⟨h3, rfl, A, c, rfl, h4⟩⟩⟩ := h
  · exact ⟨hb, .inl ⟨h1, rfl⟩⟩
  · exact ⟨hb, .inr ⟨h1, out, h2, .inl ⟨h3, rfl⟩⟩⟩
  · exact ⟨hb, .inr ⟨h1, out, h2, .inr ⟨h3, A, c, rfl, h4⟩⟩⟩
theorem NewV.slice {l : List Cl} {w w' : World} {v : Value} {n : Int} (h : NewV l w v n w') : ∃ A m c, v = .slice A m c := by
  rcases h.2 with ⟨_, rfl, _⟩ | ⟨_, out, _, ⟨_, rfl, _⟩ | ⟨_, _, A, c, rfl, _⟩⟩
  · exact ⟨_, _, _, rfl⟩
  · exact ⟨_, _, _, rfl⟩
  · exact ⟨_, _, _, rfl⟩
/-- From a later world on: what was there ahead is as it was. -/
theorem NewV.from {l : List Cl} {w w0 w' : World} {v : Value} {n : Int} (h : NewV l w v n w') (hb : Below w0.heap.size w0 w) : NewV l w0 v n w' := by
  refine ⟨hb.trans (h.1.mono hb.size), ?_⟩
  rcases h.2 with h1 | ⟨h1, out, h2, h3 | ⟨h3, rfl, A, c, rfl, h4⟩⟩
  · exact .inl h1
  · exact .inr ⟨h1, out, h2, .inl h3⟩
  · exact .inr ⟨h1, out, h2, .inr ⟨h3, rfl, A, c, rfl, own_base h4 (fun g hg => Nat.le_trans hb.size (h4.lt g hg).1)⟩⟩
/-- A store into a box that is not a claim's. -/
theorem NewV.set {l : List Cl} {w w' : World} {v : Value} {n : Int} (h : NewV l w v n w') {B : Nat} {t : TypeId} {cs : Array Value} {fr : Nat × Nat} (hB : w'.heap[B]? = some (.cells cs t fr)) (ht : (74 : TypeId) ≠ t) {w0 : World} (hw : Below w0.heap.size w0 w) (hB0 : w0.heap.size ≤ B) (u : Value) : NewV l w0 v n (w'.setCell ⟨B, 0, none⟩ u) := by
  refine ⟨(hw.trans (h.1.mono hw.size)).setCell hB0 _, ?_⟩
  rcases h.2 with h1 | ⟨h1, out, h2, h3 | ⟨h3, rfl, A, c, rfl, h4⟩⟩
  · exact .inl h1
  · exact .inr ⟨h1, out, h2, .inl h3⟩
  · exact .inr ⟨h1, out, h2, .inr ⟨h3, rfl, A, c, rfl, own_only (own_base h4 (fun g hg => Nat.le_trans hw.size (h4.lt g hg).1)) (Only.set1 w' B 0 u) (fun g hg e => by subst e; exact own_blk_ne h4 hB ht hg)⟩⟩

end Go.Proofs.YtihjcfifakcpgaaGreatDoor

/- The chapter's example; Few. -/
namespace Go.Proofs.YtihjcfifakcpgaaGreatDoor
set_option maxRecDepth 100000
open Go.RowKit

def l5 : List Cl := [⟨false, -1, [97], 0, 0⟩, ⟨true, -1, [97], 0, 0⟩, ⟨false, 0, [], 1, 3⟩, ⟨false, 0, [], 4, 9⟩, ⟨true, 0, [], 5, 6⟩]
def ex5 : List Cl := [⟨true, -1, [97], 0, 0⟩, ⟨true, 0, [], 5, 6⟩, ⟨false, 0, [], 1, 4⟩, ⟨false, 0, [], 7, 9⟩]
theorem ok5 : ∀ c ∈ l5, Ok c := by
  intro c hc
  simp [l5] at hc
  rcases hc with rfl | rfl | rfl | rfl | rfl <;> exact Ok.of (by simp)
theorem inS1 {x : Int × Int} {n : Int} : inS [x] n ↔ x.1 ≤ n ∧ n ≤ x.2 := by rw [inS_cons]; exact ⟨fun h => h.resolve_right (inS_nil n), .inl⟩
theorem normS_nil : NormS [] := ⟨fun x hx => by simp at hx, List.Pairwise.nil⟩
theorem normS_one {x : Int × Int} (h : x.1 ≤ x.2) : NormS [x] := NormS.cons h normS_nil (fun y hy => by simp at hy)
theorem form5 : IsForm l5 ex5 := by
  have e : ex5 = formOf [(true, [97])] (fun i => if i = 0 then [(5, 6)] else []) (fun i => if i = 0 then [(1, 4), (7, 9)] else []) := rfl
  rw [e]
  refine form_is ok5 ?_ ?_ ?_ ?_ ?_
  · simp
  · intro k
    rw [lev_pos]
    constructor
    · rintro ⟨b, hb⟩
      simp at hb
      obtain ⟨rfl, rfl⟩ := hb
      exact ⟨⟨true, -1, [97], 0, 0⟩, by simp [l5], by simp [Cl.has]⟩
    · rintro ⟨c, hc, h⟩
      simp [l5] at hc
      rcases hc with rfl | rfl | rfl | rfl | rfl <;> simp [Cl.has] at h <;> exact ⟨true, by simp [h]⟩
  · intro k
    rw [lev_two]
    constructor
    · intro hb
      simp at hb
      subst hb
      exact ⟨⟨true, -1, [97], 0, 0⟩, by simp [l5], by simp [Cl.has], rfl⟩
    · rintro ⟨c, hc, h, hw⟩
      simp [l5] at hc
      rcases hc with rfl | rfl | rfl | rfl | rfl <;> simp [Cl.has] at h hw <;> simp [h]
  · intro i h0 h4
    have : i = 0 ∨ i = 1 ∨ i = 2 ∨ i = 3 := by omega
    rcases this with rfl | rfl | rfl | rfl
    · exact ⟨normS_one (by decide), fun n => Iff.rfl⟩
    · exact ⟨normS_nil, fun n => Iff.rfl⟩
    · exact ⟨normS_nil, fun n => Iff.rfl⟩
    · exact ⟨normS_nil, fun n => Iff.rfl⟩
  · intro i h0 h4
    have : i = 0 ∨ i = 1 ∨ i = 2 ∨ i = 3 := by omega
    rcases this with rfl | rfl | rfl | rfl
    · refine ⟨NormS.cons (by decide) (normS_one (by decide)) (fun y hy => by simp at hy; subst hy; decide), fun n => ?_⟩
      show inS [(1, 4), (7, 9)] n ↔ inS [(1, 3), (4, 9)] n ∧ ¬ inS [(5, 6)] n
      rw [inS_cons, inS1, inS_cons, inS1, inS1]
      simp only
      omega
    · exact ⟨normS_nil, fun n => ⟨fun h => absurd h (inS_nil n), fun h => absurd h.1 (inS_nil n)⟩⟩
    · exact ⟨normS_nil, fun n => ⟨fun h => absurd h (inS_nil n), fun h => absurd h.1 (inS_nil n)⟩⟩
    · exact ⟨normS_nil, fun n => ⟨fun h => absurd h (inS_nil n), fun h => absurd h.1 (inS_nil n)⟩⟩

/-- What New hands back for claims that may be, whose form is known. -/
theorem NewV.known {l out : List Cl} {w w' : World} {v : Value} {n : Int} (h : NewV l w v n w') (ho : ∀ c ∈ l, Ok c) (hf : IsForm l out) (hl : out.length ≤ 64) :
    n = 0 ∧ ∃ A c, v = .slice A out.length c ∧ w'.ownsRow w.heap.size 74 5 (.slice A out.length c) out.length (out.map Cl.cells).flatten := by
  rcases h.2 with ⟨h1, _⟩ | ⟨_, out', h2, h3⟩
  · exact absurd (errOf_ok ho) h1
  · have e : out' = out := form_unique h2.1 hf.1 (fun t => (h2.2 t).trans (hf.2 t).symm)
    subst e
    rcases h3 with ⟨h3, _⟩ | ⟨_, rfl, h4⟩
    · omega
    · exact ⟨rfl, h4⟩

theorem fits5 : ∀ c ∈ l5, c.fits := by
  intro c hc
  simp [l5] at hc
  rcases hc with rfl | rfl | rfl | rfl | rfl <;> simp [Cl.fits, I64, maxLen]

def FewP (l : List Cl) : Prop := l.length ≤ 100 ∧ ∀ c ∈ l, c.key.length ≤ 100

end Go.Proofs.YtihjcfifakcpgaaGreatDoor

/- Plain laws: a form's claims may be; Within and Conflict by what claims do with things. -/
namespace Go.Proofs.YtihjcfifakcpgaaGreatDoor
set_option maxRecDepth 100000

/-- Claims that may be, of numbers that fit. -/
def Good (l : List Cl) : Prop := ∀ c ∈ l, Ok c ∧ c.fits

theorem Cl.has_lo {c : Cl} (h : Ok c) : c.has (c.col, c.key, c.lo) := ⟨rfl, rfl, Int.le_refl _, h.proper⟩
theorem Cl.has_hi {c : Cl} (h : Ok c) : c.has (c.col, c.key, c.hi) := ⟨rfl, rfl, h.proper, Int.le_refl _⟩

theorem form_good {l out : List Cl} (h : IsForm l out) (hg : Good l) : Good out := by
  have hp : ∀ t, 1 ≤ lev out t → ∃ c ∈ l, c.has t := fun t ht => lev_pos.1 (by rw [← h.2]; exact ht)
  obtain ⟨⟨ks, W, R, rfl, hk, hn⟩, _⟩ := h
  intro c hc
  rcases mem_formOf.1 hc with ⟨x, hx, rfl⟩ | ⟨i, h0, h4, hi⟩
  · obtain ⟨d, hd, hh⟩ := hp (-1, x.2, 0) (lev_pos.2 ⟨rowC x, hc, has_rowC.2 rfl⟩)
    obtain ⟨ho, hf⟩ := hg d hd
    have hkey : d.key = x.2 := hh.2.1
    have hcol : d.col = -1 := hh.1
    rcases ho.parts with hpt | hpt
    · exact ⟨Ok.of (.inl ⟨rfl, rfl, rfl, by show 1 ≤ x.2.length ∧ x.2.length ≤ 16; rw [← hkey]; exact hpt.2.2.2⟩), by
        have := hf.2.2.2
        rw [hkey] at this
        exact ⟨by unfold I64 rowC; simp, by unfold I64 rowC; simp, by unfold I64 rowC; simp, this⟩⟩
    · omega
  · have hcol : c.col = i ∧ c.key = [] ∧ c.lo ≤ c.hi := by
      rcases mem_colC.1 hi with ⟨x, hx, rfl⟩ | ⟨x, hx, rfl⟩
      · exact ⟨rfl, rfl, (hn i h0 h4).1.1 x hx⟩
      · exact ⟨rfl, rfl, (hn i h0 h4).2.1.1 x hx⟩
    have hok : Ok c := Ok.of (.inr ⟨by omega, by omega, hcol.2.1, hcol.2.2⟩)
    obtain ⟨d, hd, hh⟩ := hp _ (lev_pos.2 ⟨c, hc, Cl.has_lo hok⟩)
    obtain ⟨d', hd', hh'⟩ := hp _ (lev_pos.2 ⟨c, hc, Cl.has_hi hok⟩)
    have f1 := (hg d hd).2
    have f2 := (hg d' hd').2
    have g1 := hh.2.2
    have g2 := hh'.2.2
    simp only at g1 g2
    unfold Cl.fits I64 at f1 f2
    refine ⟨hok, ?_, ?_, ?_, ?_⟩
    · unfold I64; omega
    · unfold I64; omega
    · unfold I64; omega
    · rw [hcol.2.1]; simp

theorem isForm_nil : IsForm [] [] := ⟨⟨[], fun _ => [], fun _ => [], rfl, List.Pairwise.nil, fun i _ _ => ⟨⟨fun x hx => by simp at hx, List.Pairwise.nil⟩, ⟨fun x hx => by simp at hx, List.Pairwise.nil⟩, fun n h => absurd h (inS_nil n)⟩⟩, fun _ => rfl⟩
theorem IsForm.self {l out : List Cl} (h : IsForm l out) : IsForm out out := ⟨h.1, fun _ => rfl⟩
theorem IsForm.unique {l a b : List Cl} (h : IsForm l a) (h' : IsForm l b) : a = b := form_unique h.1 h'.1 (fun t => (h.2 t).trans (h'.2 t).symm)
theorem IsForm.congr {l l' out : List Cl} (h : IsForm l out) (e : ∀ t, lev l' t = lev l t) : IsForm l' out := ⟨h.1, fun t => (h.2 t).trans (e t).symm⟩
theorem Good.ok {l : List Cl} (h : Good l) : ∀ c ∈ l, Ok c := fun c hc => (h c hc).1
theorem Good.fits {l : List Cl} (h : Good l) : ∀ c ∈ l, c.fits := fun c hc => (h c hc).2
theorem Good.proper {l : List Cl} (h : Good l) : ∀ c ∈ l, c.lo ≤ c.hi := fun c hc => (h c hc).1.proper
theorem Good.append {a b : List Cl} (h : Good a) (h' : Good b) : Good (a ++ b) := fun c hc => (List.mem_append.1 hc).elim (h c) (h' c)
theorem Good.nil : Good [] := fun c hc => by simp at hc

theorem covP_lev {c : Cl} {l : List Cl} : CovP c l ↔ ∀ n, c.lo ≤ n → n ≤ c.hi → (if c.wr = true then 2 else 1) ≤ lev l (c.col, c.key, n) := by
  unfold CovP
  constructor
  · intro h n h1 h2
    obtain ⟨d, hd, hc⟩ := h n h1 h2
    split
    · rename_i hw
      have := lev_two.2 ⟨d, hd, (⟨hc.1, hc.2.1, hc.2.2.2⟩ : d.has (c.col, c.key, n)), hc.2.2.1 hw⟩
      omega
    · exact lev_pos.2 ⟨d, hd, (⟨hc.1, hc.2.1, hc.2.2.2⟩ : d.has (c.col, c.key, n))⟩
  · intro h n h1 h2
    have := h n h1 h2
    split at this
    · rename_i hw
      have hb := lev_bd l (c.col, c.key, n)
      obtain ⟨d, hd, hh, hdw⟩ := lev_two.1 (show lev l (c.col, c.key, n) = 2 by omega)
      exact ⟨d, hd, hh.1, hh.2.1, fun _ => hdw, hh.2.2⟩
    · rename_i hw
      obtain ⟨d, hd, hh⟩ := lev_pos.1 this
      exact ⟨d, hd, hh.1, hh.2.1, fun e => absurd e hw, hh.2.2⟩
theorem within_lev {a b : List Cl} : WithinP a b ↔ ∀ t, lev a t ≤ lev b t := by
  unfold WithinP
  constructor
  · intro h t
    refine lev_le ?_ ?_
    · rintro ⟨c, hc, hh, hw⟩
      have := covP_lev.1 (h c hc) t.2.2 hh.2.2.1 hh.2.2.2
      rw [if_pos hw, hh.1, hh.2.1] at this
      have hb := lev_bd b (t.1, t.2.1, t.2.2)
      exact lev_two.1 (show lev b t = 2 by obtain ⟨t1, t2, t3⟩ := t; simp only at this hb ⊢; omega)
    · rintro ⟨c, hc, hh⟩
      have := covP_lev.1 (h c hc) t.2.2 hh.2.2.1 hh.2.2.2
      rw [hh.1, hh.2.1] at this
      exact lev_pos.1 (show 1 ≤ lev b t by obtain ⟨t1, t2, t3⟩ := t; simp only at this ⊢; split at this <;> omega)
  · intro h c hc
    refine covP_lev.2 fun n h1 h2 => ?_
    have hh : c.has (c.col, c.key, n) := ⟨rfl, rfl, h1, h2⟩
    have := h (c.col, c.key, n)
    split
    · rename_i hw
      have := lev_two.2 ⟨c, hc, hh, hw⟩
      omega
    · have := lev_pos.2 ⟨c, hc, hh⟩
      omega
theorem confl_lev {a b : List Cl} (ha : Good a) (hb : Good b) : ConflP a b ↔ ∃ t, 1 ≤ lev a t ∧ 1 ≤ lev b t ∧ (lev a t = 2 ∨ lev b t = 2) := by
  unfold ConflP clash
  constructor
  · rintro ⟨c, hc, d, hd, hw, h1, h2, h3, h4⟩
    have p1 := ha.proper c hc
    have p2 := hb.proper d hd
    let n := max c.lo d.lo
    have hcn : c.has (c.col, c.key, n) := ⟨rfl, rfl, by simp only [n]; omega, by simp only [n]; omega⟩
    have hdn : d.has (c.col, c.key, n) := ⟨h1.symm, h2.symm, by simp only [n]; omega, by simp only [n]; omega⟩
    refine ⟨(c.col, c.key, n), lev_pos.2 ⟨c, hc, hcn⟩, lev_pos.2 ⟨d, hd, hdn⟩, ?_⟩
    rcases hw with hw | hw
    · exact .inl (lev_two.2 ⟨c, hc, hcn, hw⟩)
    · exact .inr (lev_two.2 ⟨d, hd, hdn, hw⟩)
  · rintro ⟨t, h1, h2, h3⟩
    have key : ∀ {c d : Cl}, c ∈ a → d ∈ b → c.has t → d.has t → (c.wr = true ∨ d.wr = true) → ∃ c ∈ a, ∃ d ∈ b, (c.wr = true ∨ d.wr = true) ∧ c.col = d.col ∧ c.key = d.key ∧ c.lo ≤ d.hi ∧ d.lo ≤ c.hi := by
      intro c d hc hd x y hw
      exact ⟨c, hc, d, hd, hw, x.1.trans y.1.symm, x.2.1.trans y.2.1.symm, Int.le_trans x.2.2.1 y.2.2.2, Int.le_trans y.2.2.1 x.2.2.2⟩
    rcases h3 with h3 | h3
    · obtain ⟨c, hc, x, hw⟩ := lev_two.1 h3
      obtain ⟨d, hd, y⟩ := lev_pos.1 h2
      exact key hc hd x y (.inl hw)
    · obtain ⟨d, hd, y, hw⟩ := lev_two.1 h3
      obtain ⟨c, hc, x⟩ := lev_pos.1 h1
      exact key hc hd x y (.inr hw)
theorem lev_nil_iff {a : List Cl} (ha : Good a) : (∀ t, lev a t ≤ 0) ↔ a = [] := by
  constructor
  · intro h
    cases a with
    | nil => rfl
    | cons c l =>
      have h1 : 1 ≤ lev (c :: l) (c.col, c.key, c.lo) := lev_pos.2 ⟨c, List.mem_cons_self, Cl.has_lo (ha.ok c List.mem_cons_self)⟩
      have := h (c.col, c.key, c.lo)
      omega
  · rintro rfl t
    rw [lev_nil]
    exact Int.le_refl _
theorem errOf_cases (l : List Cl) : errOf l = 0 ∨ errOf l = 10 ∨ errOf l = 13 := by
  unfold errOf
  split
  · rename_i c _
    unfold chk keyErr
    split
    · simp
    · split
      · split <;> simp
      · split
        · simp
        · split <;> simp
  · simp

end Go.Proofs.YtihjcfifakcpgaaGreatDoor

/- A law's argument that is a slice of claims, opened. -/
namespace Go.Proofs.YtihjcfifakcpgaaGreatDoor
set_option maxRecDepth 100000
open Go.ChangeShapes Go.WideShapes Go.ChangeAt Go.RowKit Go.Deep

theorem Tryz.cellsCl : Tryz.prog.cellsOf 74 = 5 := by kernel_rfl
theorem Tryz.cellsB : Tryz.prog.cellsOf 4 = 1 := by kernel_rfl
theorem Tryz.cellsI : Tryz.prog.cellsOf 3 = 1 := by kernel_rfl
theorem Tryz.cellsSt : Tryz.prog.cellsOf 9 = 1 := by kernel_rfl

set_option maxRecDepth 100000 in
/-- Five cells that read as a claim. -/
theorem claim_of_trod {H : Type} {enc : TypeId × Value → H} {W : World} {base : Nat} {sp : Nat → Bool} {hd : Bool} {fuel : Nat} {cs : List Value} {x : DataW H × List MemPlace} (h : DataW.trod enc Tryz.prog W base sp hd fuel 74 cs = some x) :
    ∃ c : Cl, cs = c.cells ∧ c.fits := by
  obtain ⟨xs, n, _, _, hlen, hxl, hf⟩ := DataW.trod_struct Tryz.underlying74 h
  rw [Tryz.cellsCl] at hlen
  match cs, hlen with
  | [v0, v1, v2, v3, v4], _ =>
    have hx : ∀ i, i < 5 → ∃ y, xs[i]? = some y := fun i hi => ⟨_, List.getElem?_eq_getElem (by rw [hxl]; exact hi)⟩
    obtain ⟨y0, e0⟩ := hx 0 (by decide)
    obtain ⟨y1, e1⟩ := hx 1 (by decide)
    obtain ⟨y2, e2⟩ := hx 2 (by decide)
    obtain ⟨y3, e3⟩ := hx 3 (by decide)
    obtain ⟨y4, e4⟩ := hx 4 (by decide)
    have f0 := hf 0 _ rfl
    rw [e0] at f0
    change DataW.trod enc Tryz.prog W base sp hd n 4 (List.take (Tryz.prog.cellsOf 4) (List.drop 0 [v0, v1, v2, v3, v4])) = _ at f0
    rw [Tryz.cellsB] at f0
    have f1 := hf 1 _ rfl
    rw [e1] at f1
    change DataW.trod enc Tryz.prog W base sp hd n 3 (List.take (Tryz.prog.cellsOf 3) (List.drop 1 [v0, v1, v2, v3, v4])) = _ at f1
    rw [Tryz.cellsI] at f1
    have f2 := hf 2 _ rfl
    rw [e2] at f2
    change DataW.trod enc Tryz.prog W base sp hd n 9 (List.take (Tryz.prog.cellsOf 9) (List.drop 2 [v0, v1, v2, v3, v4])) = _ at f2
    rw [Tryz.cellsSt] at f2
    have f3 := hf 3 _ rfl
    rw [e3] at f3
    change DataW.trod enc Tryz.prog W base sp hd n 3 (List.take (Tryz.prog.cellsOf 3) (List.drop 3 [v0, v1, v2, v3, v4])) = _ at f3
    rw [Tryz.cellsI] at f3
    have f4 := hf 4 _ rfl
    rw [e4] at f4
    change DataW.trod enc Tryz.prog W base sp hd n 3 (List.take (Tryz.prog.cellsOf 3) (List.drop 4 [v0, v1, v2, v3, v4])) = _ at f4
    rw [Tryz.cellsI] at f4
    obtain ⟨b, hb, _⟩ := DataW.trod_bool Tryz.underlying4 f0
    obtain ⟨n1, h1, _, w1⟩ := DataW.trod_int Tryz.underlying3 f1
    obtain ⟨s, h2, _, w2⟩ := DataW.trod_string Tryz.underlying9 f2
    obtain ⟨n3, h3, _, w3⟩ := DataW.trod_int Tryz.underlying3 f3
    obtain ⟨n4, h4, _, w4⟩ := DataW.trod_int Tryz.underlying3 f4
    simp at hb h1 h2 h3 h4
    subst hb h1 h2 h3 h4
    exact ⟨⟨b, n1, s.data.toList, n3, n4⟩, rfl, bounds_i64 w1, bounds_i64 w3, bounds_i64 w4, (by rw [Array.length_toList]; exact w2 : s.data.toList.length ≤ maxLen)⟩

set_option maxRecDepth 100000 in
theorem claims_of_trod {H : Type} {enc : TypeId × Value → H} {W : World} {v : Value} {d : DataW H} {p : List MemPlace} {base : Nat} (hval : Value.okWide Tryz.prog W .any base 24 v)
    (h : DataW.Trod enc Tryz.prog W 0 (fun _ => true) true 24 v d p) : ∃ l : List Cl, ClRd W (fun _ => True) v l ∧ ∀ c ∈ l, c.fits := by
  obtain ⟨a0, len0, cap0, rfl⟩ := okWide_slice Tryz.underlying24 hval
  obtain ⟨fuel, hf⟩ := h
  rcases open_slice Tryz.underlying24 hf with ⟨hcs, hx⟩ | ⟨a, len, cap, m, n, D, Pl, hcs, hb, hl, hm, hmm, hx, hi⟩
  · simp [Value.cells] at hcs
    obtain ⟨rfl, rfl, rfl⟩ := hcs
    exact ⟨[], RdK.nil _ _ _, by simp⟩
  · simp [Value.cells] at hcs
    obtain ⟨rfl, rfl, rfl⟩ := hcs
    simp at hmm
    subst hmm
    have key : ∀ i, i < m → ∃ c : Cl, c.fits ∧ ∀ j u, c.cells[j]? = some u → W.cell? (a.add (i * 5 + j)) = some u := by
      intro i him
      obtain ⟨cs', hc, ht'⟩ := hi i him
      obtain ⟨c, rfl, hfit⟩ := claim_of_trod ht'
      rw [Tryz.cellsCl] at hc
      obtain ⟨_, hcl, hat⟩ := World.cells?_some hc
      refine ⟨c, hfit, fun j u hj => ?_⟩
      have hjl : j < 5 := by have := (List.getElem?_eq_some_iff.1 hj).1; simpa [Cl.cells] using this
      rw [← Go.Deep.add_add, hat j hjl, hj]
    let g : Nat → Cl := fun i => if h : i < m then (key i h).choose else ⟨false, 0, [], 0, 0⟩
    have hg : ∀ i, i < m → (g i).fits ∧ ∀ j u, (g i).cells[j]? = some u → W.cell? (a.add (i * 5 + j)) = some u := by
      intro i him
      have := (key i him).choose_spec
      simp only [g, him, dif_pos]
      exact this
    refine ⟨(List.range len0).map g, ⟨some a, len0, m, rfl, by simp, hl, hm, fun h0 => ?_⟩, ?_⟩
    · have h00 := (hg 0 (by omega)).2 0 _ rfl
      have ha : a = ⟨a.block, a.off, none⟩ := by
        have : a.add (0 * 5 + 0) = a := by simp [Addr.add]
        rw [this] at h00
        exact addr_of_cell h00
      refine ⟨a.block, a.off, by rw [← ha], trivial, fun i x hi j u hj => ?_⟩
      have hil : i < len0 := by have := (List.getElem?_eq_some_iff.1 hi).1; simpa using this
      simp [hil] at hi
      subst hi
      have := (hg i (by omega)).2 j u hj
      rw [ha] at this
      unfold Addr.add at this
      split at this
      · rename_i hz; rw [hz]; simpa using this
      · simpa using this
    · intro c hc
      obtain ⟨i, hi, rfl⟩ := List.mem_map.1 hc
      exact (hg i (by have := List.mem_range.1 hi; omega)).1

end Go.Proofs.YtihjcfifakcpgaaGreatDoor

/- Words for the walks of the laws: footprints that lie in boxes. -/
namespace Go.Proofs.YtihjcfifakcpgaaGreatDoor
set_option maxRecDepth 100000
open Go.RowKit

theorem one_box (W : World) (o : Obj) : Below W.heap.size W (W.alloc o) := (Below.refl _ _).alloc (Nat.le_refl _) _
theorem unbox {W w' : World} {o : Obj} (h : Below (W.alloc o).heap.size (W.alloc o) w') : Below W.heap.size W w' := (one_box W o).trans (h.mono (by simp))
/-- A footprint in a box. -/
def Ft (w : World) (B : Nat) (A : Option Addr) (l : List Cl) (c : Nat) : Prop := w.cell? ⟨B, 0, none⟩ = some (.slice A l.length c) ∧ B < w.heap.size ∧ ClRd w (fun _ => True) (.slice A l.length c) l
theorem Ft.below {w w' : World} {B : Nat} {A : Option Addr} {l : List Cl} {c : Nat} (h : Ft w B A l c) (hb : Below w.heap.size w w') : Ft w' B A l c :=
  ⟨(hb.cell (p := ⟨B, 0, none⟩) h.2.1).trans h.1, Nat.lt_of_lt_of_le h.2.1 hb.size, RdK.below h.2.2 hb⟩
theorem Ft.made {W w' : World} {A : Option Addr} {l : List Cl} {c : Nat} {t : TypeId} (hb : Below (W.alloc (.cells #[.slice A l.length c] t)).heap.size (W.alloc (.cells #[.slice A l.length c] t)) w') (h : ClRd W (fun _ => True) (.slice A l.length c) l) : Ft w' W.heap.size A l c := by
  have hB : w'.heap[W.heap.size]? = some (.cells #[.slice A l.length c] t (0, 0)) := by rw [hb.block _ (by simp)]; exact heap_alloc_new _ _
  exact ⟨blk_cell hB, (Array.getElem?_eq_some_iff.1 hB).1, RdK.below h (unbox hb)⟩

end Go.Proofs.YtihjcfifakcpgaaGreatDoor

/- The same contracts with a named answer; what Join does with things. -/
namespace Go.Proofs.YtihjcfifakcpgaaGreatDoor
set_option maxRecDepth 100000
open Go.RowKit

/-- An answer that tells whether something is so. -/
def Tells (b : Bool) (p : Prop) : Prop := b = true ↔ p
theorem Tells.yes {p : Prop} (h : p) : Tells true p := ⟨fun _ => h, fun _ => rfl⟩
theorem Tells.no {p : Prop} (h : ¬ p) : Tells false p := ⟨(fun e => by cases e), fun e => absurd e h⟩
theorem Tells.pos {p : Prop} (h : Tells true p) : p := h.1 rfl
theorem Tells.neg {p : Prop} (h : Tells false p) : ¬ p := fun e => by have := h.2 e; cases this
theorem Tells.congr {b : Bool} {p q : Prop} (h : Tells b p) (e : p ↔ q) : Tells b q := h.trans e
theorem bool_of (p : Prop) : ∃ b : Bool, Tells b p := by
  by_cases h : p
  · exact ⟨true, .yes h⟩
  · exact ⟨false, .no h⟩
theorem ClRd.below {w w' : World} {F : Nat → Prop} {v : Value} {l : List Cl} (h : ClRd w F v l) (hb : Below w.heap.size w w') : ClRd w' F v l := RdK.below h hb
/-- A call that answers b, and leaves all that was there. -/
def Ans (b : Bool) (w : World) (e : Ending) (w' : World) : Prop := e = .returned (.bool b) ∧ Below w.heap.size w w'
theorem BoolP.ans {p : Prop} {r : Bool} (hr : r = true ↔ p) {w : World} {e : Ending} {w' : World} (h : BoolP p w e w') : Ans r w e w' := by
  obtain ⟨b, hb, rfl, hw⟩ := h
  have : b = r := by
    cases b <;> cases r <;> simp_all
  subst this
  exact ⟨rfl, hw⟩
theorem take_no {P : Program} {md : Region.Mode} {l : List Oper} {Q : Exit → Act → World → Prop} {S : World → Prop} {i : Nat} {oi : Oper} {fuel : Nat} {listed : Array Bool} {a : Act} {w : World} (hi : l[i]? = some oi)
    (hs : Region.noSelect l.toArray = true) (hf : Region.free md l.toArray listed i = true) (hr : (Region.ready md l.toArray listed).contains i = true)
    (hQ : ∀ c a w, Q (.panic c) (a.put oi.dst undef) w → Q (.panic c) a w) (hw : Region.wanted oi (yielded l.toArray a.tmps) = false) (hS : S w)
    (h : wpAnyH P md l.toArray Q S fuel (listed.setIfInBounds i true) (a.put oi.dst undef) w) : wpAnyH P md l.toArray Q S (fuel + 1) listed a w :=
  wpAnyH_take (by simpa using hi) hs hf hr hQ (.inr ⟨hw, rfl⟩) hS h
/-- A footprint whose box has just been made. -/
theorem Ft.box {W : World} {A : Option Addr} {l : List Cl} {c : Nat} (t : TypeId) (h : ClRd W (fun _ => True) (.slice A l.length c) l) : Ft (W.alloc (.cells #[.slice A l.length c] t)) W.heap.size A l c :=
  ⟨blk_cell (heap_alloc_new _ _), by simp, RdK.below h (one_box _ _)⟩
theorem held1 {wk W W' : World} {b1 : Nat} {v1 : Value} (h : Below wk.heap.size wk W ∧ W.cell? ⟨b1, 0, none⟩ = some v1) (hb : Below W.heap.size W W') : Below wk.heap.size wk W' ∧ W'.cell? ⟨b1, 0, none⟩ = some v1 :=
  ⟨h.1.trans (hb.mono h.1.size), (hb.cell (p := ⟨b1, 0, none⟩) (World.block_lt_of_cell? _ _ h.2)).trans h.2⟩
theorem held2 {wk W W' : World} {b1 b2 : Nat} {v1 v2 : Value} (h : Below wk.heap.size wk W ∧ W.cell? ⟨b1, 0, none⟩ = some v1 ∧ W.cell? ⟨b2, 0, none⟩ = some v2) (hb : Below W.heap.size W W') :
    Below wk.heap.size wk W' ∧ W'.cell? ⟨b1, 0, none⟩ = some v1 ∧ W'.cell? ⟨b2, 0, none⟩ = some v2 :=
  ⟨h.1.trans (hb.mono h.1.size), (held1 ⟨h.1, h.2.1⟩ hb).2, (held1 ⟨h.1, h.2.2⟩ hb).2⟩
theorem held3 {wk W W' : World} {b1 b2 b3 : Nat} {v1 v2 v3 : Value} (h : Below wk.heap.size wk W ∧ W.cell? ⟨b1, 0, none⟩ = some v1 ∧ W.cell? ⟨b2, 0, none⟩ = some v2 ∧ W.cell? ⟨b3, 0, none⟩ = some v3) (hb : Below W.heap.size W W') :
    Below wk.heap.size wk W' ∧ W'.cell? ⟨b1, 0, none⟩ = some v1 ∧ W'.cell? ⟨b2, 0, none⟩ = some v2 ∧ W'.cell? ⟨b3, 0, none⟩ = some v3 :=
  ⟨h.1.trans (hb.mono h.1.size), (held1 ⟨h.1, h.2.1⟩ hb).2, (held1 ⟨h.1, h.2.2.1⟩ hb).2, (held1 ⟨h.1, h.2.2.2⟩ hb).2⟩
theorem held4 {wk W W' : World} {b1 b2 b3 b4 : Nat} {v1 v2 v3 v4 : Value} (h : Below wk.heap.size wk W ∧ W.cell? ⟨b1, 0, none⟩ = some v1 ∧ W.cell? ⟨b2, 0, none⟩ = some v2 ∧ W.cell? ⟨b3, 0, none⟩ = some v3 ∧ W.cell? ⟨b4, 0, none⟩ = some v4) (hb : Below W.heap.size W W') :
    Below wk.heap.size wk W' ∧ W'.cell? ⟨b1, 0, none⟩ = some v1 ∧ W'.cell? ⟨b2, 0, none⟩ = some v2 ∧ W'.cell? ⟨b3, 0, none⟩ = some v3 ∧ W'.cell? ⟨b4, 0, none⟩ = some v4 :=
  ⟨h.1.trans (hb.mono h.1.size), (held1 ⟨h.1, h.2.1⟩ hb).2, (held1 ⟨h.1, h.2.2.1⟩ hb).2, (held1 ⟨h.1, h.2.2.2.1⟩ hb).2, (held1 ⟨h.1, h.2.2.2.2⟩ hb).2⟩
theorem held5 {wk W W' : World} {b1 b2 b3 b4 b5 : Nat} {v1 v2 v3 v4 v5 : Value} (h : Below wk.heap.size wk W ∧ W.cell? ⟨b1, 0, none⟩ = some v1 ∧ W.cell? ⟨b2, 0, none⟩ = some v2 ∧ W.cell? ⟨b3, 0, none⟩ = some v3 ∧ W.cell? ⟨b4, 0, none⟩ = some v4 ∧ W.cell? ⟨b5, 0, none⟩ = some v5) (hb : Below W.heap.size W W') :
    Below wk.heap.size wk W' ∧ W'.cell? ⟨b1, 0, none⟩ = some v1 ∧ W'.cell? ⟨b2, 0, none⟩ = some v2 ∧ W'.cell? ⟨b3, 0, none⟩ = some v3 ∧ W'.cell? ⟨b4, 0, none⟩ = some v4 ∧ W'.cell? ⟨b5, 0, none⟩ = some v5 :=
  ⟨h.1.trans (hb.mono h.1.size), (held1 ⟨h.1, h.2.1⟩ hb).2, (held1 ⟨h.1, h.2.2.1⟩ hb).2, (held1 ⟨h.1, h.2.2.2.1⟩ hb).2, (held1 ⟨h.1, h.2.2.2.2.1⟩ hb).2, (held1 ⟨h.1, h.2.2.2.2.2⟩ hb).2⟩

/-- New's answer: nothing, and what is wrong; or the form. -/
theorem NewV.cases {l : List Cl} {w w' : World} {v : Value} {n : Int} (h : NewV l w v n w') : (n ≠ 0 ∧ v = .slice none 0 0) ∨ (n = 0 ∧ errOf l = 0 ∧ ∃ out, IsForm l out ∧ out.length ≤ 64 ∧ ∃ A c, v = .slice A out.length c ∧ w'.ownsRow w.heap.size 74 5 (.slice A out.length c) out.length (out.map Cl.cells).flatten) := by
  rcases h.2 with ⟨h1, rfl, rfl⟩ | ⟨h1, out, hf, ⟨h3, rfl, rfl⟩ | ⟨h3, rfl, h4⟩⟩
  · exact .inl ⟨h1, rfl⟩
  · exact .inl ⟨by decide, rfl⟩
  · exact .inr ⟨rfl, h1, out, hf, h3, h4⟩
/-- New's answer at claims that may be. -/
theorem NewV.good {l : List Cl} {w w' : World} {v : Value} {n : Int} (h : NewV l w v n w') (ho : ∀ c ∈ l, Ok c) : ∃ out, IsForm l out ∧ ((64 < out.length ∧ v = .slice none 0 0 ∧ n = 23) ∨
    (out.length ≤ 64 ∧ n = 0 ∧ ∃ A c, v = .slice A out.length c ∧ w'.ownsRow w.heap.size 74 5 (.slice A out.length c) out.length (out.map Cl.cells).flatten)) := by
  rcases h.2 with ⟨h1, _⟩ | ⟨h1, h2⟩
  · exact absurd (errOf_ok ho) h1
  · exact h2

theorem lev_join {f g j : List Cl} (h : IsForm (f ++ g) j) (t : Thing) : lev j t = max (lev f t) (lev g t) := by rw [h.2, lev_append]
theorem join_comm {f g j : List Cl} (h : IsForm (f ++ g) j) : IsForm (g ++ f) j := ⟨h.1, fun t => by rw [h.2, lev_append, lev_append]; omega⟩
theorem within_join_l {f g j : List Cl} (h : IsForm (f ++ g) j) : WithinP f j := within_lev.2 fun t => by rw [lev_join h]; omega
theorem within_join_r {f g j : List Cl} (h : IsForm (f ++ g) j) : WithinP g j := within_lev.2 fun t => by rw [lev_join h]; omega
theorem within_join {f g j k : List Cl} (h : IsForm (f ++ g) j) : WithinP j k ↔ WithinP f k ∧ WithinP g k := by
  rw [within_lev, within_lev, within_lev]
  constructor
  · intro hh
    exact ⟨fun t => by have := hh t; rw [lev_join h] at this; omega, fun t => by have := hh t; rw [lev_join h] at this; omega⟩
  · intro ⟨h1, h2⟩ t
    have := h1 t
    have := h2 t
    rw [lev_join h]
    omega
theorem within_trans {f g k : List Cl} (h : WithinP f g) (h' : WithinP g k) : WithinP f k := by
  rw [within_lev] at *
  exact fun t => Int.le_trans (h t) (h' t)
theorem confl_mono {f g k : List Cl} (gf : Good f) (gg : Good g) (gk : Good k) (h : WithinP f g) (hc : ConflP f k) : ConflP g k := by
  rw [confl_lev gf gk] at hc
  rw [confl_lev gg gk]
  rw [within_lev] at h
  obtain ⟨t, h1, h2, h3⟩ := hc
  have := h t
  have := lev_bd g t
  exact ⟨t, by omega, h2, by omega⟩
theorem confl_join {f g j k : List Cl} (gf : Good f) (gg : Good g) (gj : Good j) (gk : Good k) (h : IsForm (f ++ g) j) : ConflP j k ↔ ConflP f k ∨ ConflP g k := by
  rw [confl_lev gj gk, confl_lev gf gk, confl_lev gg gk]
  constructor
  · rintro ⟨t, h1, h2, h3⟩
    rw [lev_join h] at h1 h3
    have b1 := lev_bd f t
    have b2 := lev_bd g t
    by_cases hc : lev g t ≤ lev f t
    · exact .inl ⟨t, by omega, h2, by omega⟩
    · exact .inr ⟨t, by omega, h2, by omega⟩
  · have b : ∀ t, lev f t ≤ 2 ∧ lev g t ≤ 2 := fun t => ⟨(lev_bd f t).2, (lev_bd g t).2⟩
    rintro (⟨t, h1, h2, h3⟩ | ⟨t, h1, h2, h3⟩)
    · have := b t
      exact ⟨t, by rw [lev_join h]; omega, h2, by rw [lev_join h]; omega⟩
    · have := b t
      exact ⟨t, by rw [lev_join h]; omega, h2, by rw [lev_join h]; omega⟩
theorem confl_symm {f g : List Cl} : ConflP f g ↔ ConflP g f := by
  constructor
  · rintro ⟨c, hc, d, hd, h1, h2, h3, h4, h5⟩
    exact ⟨d, hd, c, hc, h1.symm, h2.symm, h3.symm, h5, h4⟩
  · rintro ⟨c, hc, d, hd, h1, h2, h3, h4, h5⟩
    exact ⟨d, hd, c, hc, h1.symm, h2.symm, h3.symm, h5, h4⟩

end Go.Proofs.YtihjcfifakcpgaaGreatDoor
