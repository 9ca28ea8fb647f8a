/- What the document's answer's reader has read so far, in memory. -/
import Derived.Test.YtihjcfifakcpgaaGreatDoorRefWP
import Derived.Test.YtihjcfifakcpgaaGreatDoorRefQ
namespace Go.Proofs.YtihjcfifakcpgaaGreatDoor
set_option maxRecDepth 100000
open Go.RowKit

structure EAt (w : World) (B E R : Nat) (A : Option Addr) (c : Nat) (bs : List UInt8) (id : Int) (vo va vc : Value) (lo : List POp) (la : List Int) (lc : List Cl) (st : Option (List UInt8)) (wr : World) : Prop where
  rs : RS wr (fun k => k < w.heap.size) B A c bs st
  ent : wr.heap[E]? = some (.cells #[.int .i64 id, vo, va, vc] 39 (0, 0))
  res : wr.heap[R]? = some (.cells #[.int .i64 0, .slice none 0 0, .slice none 0 0, .slice none 0 0] 39 (0, 0))
  ops : wr.ownsRow w.heap.size 49 5 vo lo.length (lo.map POp.cells).flatten
  args : wr.ownsRow w.heap.size 3 1 va la.length (ivs la)
  cls : wr.ownsRow w.heap.size 74 5 vc lc.length (lc.map Cl.cells).flatten
  below : Below w.heap.size w wr
  far : w.heap.size ≤ R ∧ R < B ∧ B < E
section
variable {w wr w' w1 : World} {B E R : Nat} {A : Option Addr} {c : Nat} {bs : List UInt8} {id : Int} {vo va vc : Value} {lo : List POp} {la : List Int} {lc : List Cl} {st st' : Option (List UInt8)}
theorem EAt.rdr (h : EAt w B E R A c bs id vo va vc lo la lc st wr) : ∃ cs, wr.heap[B]? = some (.cells cs 99 (0, 0)) := by
  obtain ⟨a, d, h3, _⟩ := h.rs
  exact ⟨_, h3⟩
theorem EAt.lt (h : EAt w B E R A c bs id vo va vc lo la lc st wr) : E < wr.heap.size := (Array.getElem?_eq_some_iff.1 h.ent).1
theorem EAt.only {S : Nat → Prop} (h : EAt w B E R A c bs id vo va vc lo la lc st wr) (ho : Only S wr w') (hN : ∀ k, S k → w.heap.size ≤ k) (hB : ¬ S B) (hE : ¬ S E) (hR : ¬ S R) (h1 : ∀ g, vo.ownBlock = some g → ¬ S g) (h2 : ∀ g, va.ownBlock = some g → ¬ S g) (h3 : ∀ g, vc.ownBlock = some g → ¬ S g) : EAt w B E R A c bs id vo va vc lo la lc st w' :=
  ⟨h.rs.only ho hB (fun k hk e => by have := hN k e; omega), ho.heap h.ent hE, ho.heap h.res hR, own_only h.ops ho h1, own_only h.args ho h2, own_only h.cls ho h3, h.below.trans (ho.belowN h.below.size (fun k hk e => by have := hN k e; omega)), h.far⟩
theorem EAt.under (h : EAt w B E R A c bs id vo va vc lo la lc st wr) (hb : Below wr.heap.size wr w') : EAt w B E R A c bs id vo va vc lo la lc st w' :=
  h.only (Only.of_below hb (fun _ => False)) (fun _ h => h.elim) (fun h => h) (fun h => h) (fun h => h) (fun _ _ h => h) (fun _ _ h => h) (fun _ _ h => h)
theorem EAt.read (h : EAt w B E R A c bs id vo va vc lo la lc st wr) (ho : Only (fun k => k = B) wr w') (hr : RS w' (fun k => k < w.heap.size) B A c bs st') : EAt w B E R A c bs id vo va vc lo la lc st' w' := by
  obtain ⟨cs, hb⟩ := h.rdr
  have hf := h.far
  exact ⟨hr, ho.heap h.ent (by show ¬ E = B; omega), ho.heap h.res (by show ¬ R = B; omega), own_only h.ops ho (fun g hg e => own_blk_ne h.ops hb (by decide) (e ▸ hg)), own_only h.args ho (fun g hg e => own_blk_ne h.args hb (by decide) (e ▸ hg)), own_only h.cls ho (fun g hg e => own_blk_ne h.cls hb (by decide) (e ▸ hg)), h.below.trans (ho.belowN h.below.size (fun k hk e => by omega)), h.far⟩
theorem EAt.app_op {v : Value} {x : POp} (h : EAt w B E R A c bs id vo va vc lo la lc st wr) (hg : wr.grownBy w1 vo.ownBlock) (hown : w1.ownsRow w.heap.size 49 5 v (lo.length + 1) ((lo.map POp.cells).flatten ++ x.cells)) : EAt w B E R A c bs id v va vc (lo ++ [x]) la lc st (w1.setCell ⟨E, 1, none⟩ v) := by
  obtain ⟨cs, hb⟩ := h.rdr
  have hf := h.far
  have ho := Only.of_grownBy hg
  have hE := ho.heap h.ent (own_blk_ne h.ops h.ent (by decide))
  refine ⟨?_, ?_, ?_, ?_, ?_, ?_, ?_, h.far⟩
  · refine (h.rs.only ho (own_blk_ne h.ops hb (by decide)) (fun k hk e => by have := (h.ops.lt k e).1; omega)).only (Only.set1 w1 E 1 v) (by show ¬ B = E; omega) (fun k hk e => ?_)
    have hk : k < w.heap.size := hk
    have e : k = E := e
    omega
  · have := heap_setCell_same w1 E 1 _ _ v hE
    simpa using this
  · exact (Only.set1 w1 E 1 v).heap (ho.heap h.res (own_blk_ne h.ops h.res (by decide))) (by show ¬ R = E; omega)
  · exact by have := own_only hown (Only.set1 w1 E 1 v) (fun g hg e => own_blk_ne hown hE (by decide) (e ▸ hg)); simpa [ivs] using this
  · exact own_only (own_kept_ne h.args h.ops (by decide) hg) (Only.set1 w1 E 1 v) (fun g hg' e => own_blk_ne (own_kept_ne h.args h.ops (by decide) hg) hE (by decide) (e ▸ hg'))
  · exact own_only (own_kept_ne h.cls h.ops (by decide) hg) (Only.set1 w1 E 1 v) (fun g hg' e => own_blk_ne (own_kept_ne h.cls h.ops (by decide) hg) hE (by decide) (e ▸ hg'))
  · exact (h.below.grown hg h.below.size (fun j hj => (h.ops.lt j hj).1)).setCell (p := ⟨E, 1, none⟩) (by show _ ≤ E; omega) v
theorem EAt.app_arg {v : Value} {x : Int} (h : EAt w B E R A c bs id vo va vc lo la lc st wr) (hg : wr.grownBy w1 va.ownBlock) (hown : w1.ownsRow w.heap.size 3 1 v (la.length + 1) (ivs la ++ [.int .i64 x])) : EAt w B E R A c bs id vo v vc lo (la ++ [x]) lc st (w1.setCell ⟨E, 2, none⟩ v) := by
  obtain ⟨cs, hb⟩ := h.rdr
  have hf := h.far
  have ho := Only.of_grownBy hg
  have hE := ho.heap h.ent (own_blk_ne h.args h.ent (by decide))
  refine ⟨?_, ?_, ?_, ?_, ?_, ?_, ?_, h.far⟩
  · refine (h.rs.only ho (own_blk_ne h.args hb (by decide)) (fun k hk e => by have := (h.args.lt k e).1; omega)).only (Only.set1 w1 E 2 v) (by show ¬ B = E; omega) (fun k hk e => ?_)
    have hk : k < w.heap.size := hk
    have e : k = E := e
    omega
  · have := heap_setCell_same w1 E 2 _ _ v hE
    simpa using this
  · exact (Only.set1 w1 E 2 v).heap (ho.heap h.res (own_blk_ne h.args h.res (by decide))) (by show ¬ R = E; omega)
  · exact own_only (own_kept_ne h.ops h.args (by decide) hg) (Only.set1 w1 E 2 v) (fun g hg' e => own_blk_ne (own_kept_ne h.ops h.args (by decide) hg) hE (by decide) (e ▸ hg'))
  · exact by have := own_only hown (Only.set1 w1 E 2 v) (fun g hg e => own_blk_ne hown hE (by decide) (e ▸ hg)); simpa [ivs] using this
  · exact own_only (own_kept_ne h.cls h.args (by decide) hg) (Only.set1 w1 E 2 v) (fun g hg' e => own_blk_ne (own_kept_ne h.cls h.args (by decide) hg) hE (by decide) (e ▸ hg'))
  · exact (h.below.grown hg h.below.size (fun j hj => (h.args.lt j hj).1)).setCell (p := ⟨E, 2, none⟩) (by show _ ≤ E; omega) v
theorem EAt.app_cl {v : Value} {x : Cl} (h : EAt w B E R A c bs id vo va vc lo la lc st wr) (hg : wr.grownBy w1 vc.ownBlock) (hown : w1.ownsRow w.heap.size 74 5 v (lc.length + 1) ((lc.map Cl.cells).flatten ++ x.cells)) : EAt w B E R A c bs id vo va v lo la (lc ++ [x]) st (w1.setCell ⟨E, 3, none⟩ v) := by
  obtain ⟨cs, hb⟩ := h.rdr
  have hf := h.far
  have ho := Only.of_grownBy hg
  have hE := ho.heap h.ent (own_blk_ne h.cls h.ent (by decide))
  refine ⟨?_, ?_, ?_, ?_, ?_, ?_, ?_, h.far⟩
  · refine (h.rs.only ho (own_blk_ne h.cls hb (by decide)) (fun k hk e => by have := (h.cls.lt k e).1; omega)).only (Only.set1 w1 E 3 v) (by show ¬ B = E; omega) (fun k hk e => ?_)
    have hk : k < w.heap.size := hk
    have e : k = E := e
    omega
  · have := heap_setCell_same w1 E 3 _ _ v hE
    simpa using this
  · exact (Only.set1 w1 E 3 v).heap (ho.heap h.res (own_blk_ne h.cls h.res (by decide))) (by show ¬ R = E; omega)
  · exact own_only (own_kept_ne h.ops h.cls (by decide) hg) (Only.set1 w1 E 3 v) (fun g hg' e => own_blk_ne (own_kept_ne h.ops h.cls (by decide) hg) hE (by decide) (e ▸ hg'))
  · exact own_only (own_kept_ne h.args h.cls (by decide) hg) (Only.set1 w1 E 3 v) (fun g hg' e => own_blk_ne (own_kept_ne h.args h.cls (by decide) hg) hE (by decide) (e ▸ hg'))
  · exact by have := own_only hown (Only.set1 w1 E 3 v) (fun g hg e => own_blk_ne hown hE (by decide) (e ▸ hg)); simpa [ivs] using this
  · exact (h.below.grown hg h.below.size (fun j hj => (h.cls.lt j hj).1)).setCell (p := ⟨E, 3, none⟩) (by show _ ≤ E; omega) v
theorem EAt.number (h : EAt w B E R A c bs id vo va vc lo la lc st wr) (hlen : bs.length ≤ 1000) : Calls Tryz.prog 58 #[.pointer (some ⟨B, 0, none⟩)] wr (fun e w' => ∃ d s1, e = .returned (.int .i64 d) ∧ Got rdUI st d s1 ∧ EAt w B E R A c bs id vo va vc lo la lc s1 w' ∧ Only (fun k => k = B) wr w') := by
  refine (refNumber_ok wr _ B A c bs st h.rs hlen).mono ?_
  rintro e w' ⟨he, ho, hr⟩
  exact ⟨_, _, he, got_step rdUI 0 st, h.read ho hr, ho⟩
theorem EAt.signed (h : EAt w B E R A c bs id vo va vc lo la lc st wr) (hlen : bs.length ≤ 1000) : Calls Tryz.prog 60 #[.pointer (some ⟨B, 0, none⟩)] wr (fun e w' => ∃ d s1, e = .returned (.int .i64 d) ∧ Got rdI st d s1 ∧ EAt w B E R A c bs id vo va vc lo la lc s1 w' ∧ Only (fun k => k = B) wr w') := by
  refine (refSigned_ok wr _ B A c bs st h.rs hlen).mono ?_
  rintro e w' ⟨he, ho, hr⟩
  exact ⟨_, _, he, got_step rdI 0 st, h.read ho hr, ho⟩
theorem rdUI_bd {r q : List UInt8} {n : Int} (h : rdUI r = some (n, q)) : 0 ≤ n := by
  unfold rdUI at h
  cases hu : rdU r with
  | none => rw [hu] at h; simp at h
  | some x => rw [hu] at h; simp at h; omega
theorem cnt_bd (M : Int) (hM : 0 ≤ M) (st : Option (List UInt8)) : 0 ≤ (stepR (cntF M) 0 st).1 ∧ (stepR (cntF M) 0 st).1 ≤ M := by
  rcases stepR_ways (cntF M) 0 st with ⟨he, _⟩ | ⟨r, n, q, _, hf, he⟩
  · rw [he]; exact ⟨Int.le_refl _, hM⟩
  · rw [he]
    unfold cntF at hf
    cases hu : rdUI r with
    | none => rw [hu] at hf; cases hf
    | some x =>
      obtain ⟨m, q'⟩ := x
      rw [hu] at hf
      simp only at hf
      have hm := rdUI_bd hu
      by_cases hmM : m ≤ M
      · rw [if_pos hmM] at hf
        injection hf with hf
        injection hf with e1 e2
        subst e1
        exact ⟨hm, hmM⟩
      · rw [if_neg hmM] at hf
        cases hf
theorem EAt.count (h : EAt w B E R A c bs id vo va vc lo la lc st wr) (M : Int) (hM : 0 ≤ M) (hlen : bs.length ≤ 1000) : Calls Tryz.prog 59 #[.pointer (some ⟨B, 0, none⟩), .int .i64 M] wr (fun e w' => ∃ (d : Nat) (s1 : Option (List UInt8)), e = .returned (.int .i64 (d : Int)) ∧ (d : Int) ≤ M ∧ Got (cntF M) st (d : Int) s1 ∧ EAt w B E R A c bs id vo va vc lo la lc s1 w' ∧ Only (fun k => k = B) wr w') := by
  refine (refCount_ok wr _ B A c bs st M hM h.rs hlen).mono ?_
  rintro e w' ⟨he, ho, hr⟩
  obtain ⟨hb1, hb2⟩ := cnt_bd M hM st
  have hg := got_step (cntF M) 0 st
  generalize (stepR (cntF M) 0 st) = z at he hr hb1 hb2 hg
  obtain ⟨n, s1⟩ := z
  obtain ⟨d, rfl⟩ : ∃ d : Nat, n = (d : Int) := ⟨n.toNat, by simp only at hb1; omega⟩
  exact ⟨d, s1, he, hb2, hg, h.read ho hr, ho⟩
theorem EAt.text (h : EAt w B E R A c bs id vo va vc lo la lc st wr) (hlen : bs.length ≤ 1000) : Calls Tryz.prog 61 #[.pointer (some ⟨B, 0, none⟩)] wr (fun e w' => ∃ d s1, e = .returned (.string ⟨d.toArray⟩) ∧ Got (rdT 16) st d s1 ∧ EAt w B E R A c bs id vo va vc lo la lc s1 w' ∧ Only (fun k => k = B) wr w') := by
  refine (refTextR_ok wr _ B A c bs st h.rs hlen).mono ?_
  rintro e w' ⟨he, ho, hr⟩
  exact ⟨_, _, he, got_step (rdT 16) [] st, h.read ho hr, ho⟩
end
end Go.Proofs.YtihjcfifakcpgaaGreatDoor
