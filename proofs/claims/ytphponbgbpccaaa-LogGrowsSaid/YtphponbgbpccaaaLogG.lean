/- LogGrows: the walk. -/
import Derived.Test.YtphponbgbpccaaaLogF
namespace Go.Proofs.Ytphponbgbpccaaa
open Go.RowKit

/-- What was kept so far: a row of the call's own, of slices that lie in the argument. -/
def HaveAt (w : World) (N : Nat) (v : Value) (ps : List (List UInt8)) : Prop :=
  ∃ vs, w.ownsRow N 29 1 v ps.length vs ∧ ∀ (i : Nat) (p : List UInt8), ps[i]? = some p → ∃ A c, vs[i]? = some (Value.slice A p.length c) ∧ Rd w (fun k => k < N) (.slice A p.length c) (p.map B8)

theorem HaveAt.only {w w' : World} {N : Nat} {v : Value} {ps : List (List UInt8)} {S : Nat → Prop} (h : HaveAt w N v ps) (ho : Only S w w') (hS : ∀ k, S k → N ≤ k ∧ v.ownBlock ≠ some k) : HaveAt w' N v ps := by
  obtain ⟨vs, h1, h2⟩ := h
  refine ⟨vs, own_only h1 ho (fun g hg hs => (hS g hs).2 hg), fun i p hp => ?_⟩
  obtain ⟨A, c, ha, hr⟩ := h2 i p hp
  exact ⟨A, c, ha, hr.only ho (fun k hk hs => by have := (hS k hs).1; omega)⟩
theorem HaveAt.rows {w : World} {N : Nat} {v : Value} {ps : List (List UInt8)} (h : HaveAt w N v ps) : RowsRd w (fun _ => True) v ps := by
  obtain ⟨vs, h1, h2⟩ := h
  refine ⟨vs, Rd.of_own h1 (fun _ _ => trivial), by simpa using h1.1, fun i p hp => ?_⟩
  obtain ⟨A, c, ha, hr⟩ := h2 i p hp
  exact ⟨A, c, ha, hr.mono (fun _ _ => trivial)⟩

def keep (ps : List (List UInt8)) : List (List UInt8) := ps.filter (fun p => decide (p.length ≤ 8192))
theorem keep_snoc (ps : List (List UInt8)) (p : List UInt8) : keep (ps ++ [p]) = if p.length ≤ 8192 then keep ps ++ [p] else keep ps := by
  unfold keep
  rw [List.filter_append]
  split <;> simp [*]
theorem keep_le (ps : List (List UInt8)) : (keep ps).length ≤ ps.length := List.length_filter_le _ _
theorem keep_all (ps : List (List UInt8)) : ∀ p ∈ keep ps, p.length ≤ 8192 := by
  intro p hp
  have := (List.mem_filter.1 hp).2
  simpa using this

/-- Between two rounds of the great loop: k pieces are done; nothing of it lies in X. -/
def GrowRel (w : World) (kp : List (List UInt8)) (b : Nat) (v : Value) (X : Nat → Prop) (wr : World) : Prop :=
  HaveAt wr w.heap.size v kp ∧ Below w.heap.size w wr ∧ (∀ j, v.ownBlock = some j → ¬ X j) ∧ ∃ F, LogAt wr F b kp ∧ (∀ j, F j → w.heap.size ≤ j ∧ v.ownBlock ≠ some j ∧ j < wr.heap.size ∧ ¬ X j)

theorem grow_mod {w wr w' : World} {kp : List (List UInt8)} {b : Nat} {v : Value} {X : Nat → Prop} (h : GrowRel w kp b v X wr) (ho : Only X wr w') (hX : ∀ k, X k → w.heap.size ≤ k) : GrowRel w kp b v X w' := by
  obtain ⟨h1, h2, h3, F, h4, h5⟩ := h
  refine ⟨h1.only ho (fun k hk => ⟨hX k hk, fun e => h3 k e hk⟩), h2.trans (ho.belowN h2.size (fun k hk hx => by have := hX k hx; omega)), h3, F, h4.only ho (fun k hk => (h5 k hk).2.2.2), fun j hj => ?_⟩
  obtain ⟨a, b, c, d⟩ := h5 j hj
  exact ⟨a, b, by have := ho.size; omega, d⟩
theorem grow_weak {w wr : World} {kp : List (List UInt8)} {b : Nat} {v : Value} {X Y : Nat → Prop} (h : GrowRel w kp b v X wr) (hY : ∀ k, Y k → k < wr.heap.size → X k) : GrowRel w kp b v Y wr := by
  obtain ⟨h1, h2, h3, F, h4, h5⟩ := h
  refine ⟨h1, h2, fun j hj hy => h3 j hj (hY j hy ?_), F, h4, fun j hj => ?_⟩
  · obtain ⟨vs, ho, _⟩ := h1
    exact (ho.lt j hj).2
  · obtain ⟨a, b, c, d⟩ := h5 j hj
    exact ⟨a, b, c, fun hy => d (hY j hy c)⟩

theorem grow_fresh {w wr w' : World} {kp : List (List UInt8)} {b : Nat} {v : Value} {X : Nat → Prop} (h : GrowRel w kp b v X wr) (hb : Below wr.heap.size wr w') : GrowRel w kp b v (fun k => wr.heap.size ≤ k) w' := by
  obtain ⟨h1, h2, h3, F, h4, h5⟩ := h
  refine ⟨h1.only (Only.of_below hb fun _ => False) (fun _ h => h.elim), h2.trans (hb.mono h2.size), fun j hj => ?_, F, h4.below hb, fun j hj => ?_⟩
  · obtain ⟨vs, ho, _⟩ := h1
    have := (ho.lt j hj).2
    omega
  · obtain ⟨a, b, c, d⟩ := h5 j hj
    exact ⟨a, b, by have := hb.size; omega, by omega⟩

theorem grow_append {w w2 w3 w4 : World} {kp : List (List UInt8)} {b L c7 g cap : Nat} {A7 A' : Option Addr} {c' : Nat} {p : List UInt8} {FL : Nat → Prop} {X : Nat → Prop} {o1 : Obj} {F3 : Nat → Prop}
    (hL : kp.length = L) (hG : GrowRel w kp b (.slice A7 L c7) X w2) (hFL : ∀ j, FL j → w.heap.size ≤ j ∧ (Value.slice A7 L c7).ownBlock ≠ some j ∧ j < w2.heap.size ∧ ¬ X j) (hX : ∀ k, X k → k < w2.heap.size)
    (ho3 : Only FL w2 w3) (hlog3 : LogAt w3 F3 b (kp ++ [p])) (hF3 : ∀ k, F3 k → FL k ∨ w2.heap.size ≤ k) {vs : List Value}
    (hvi : ∀ (i : Nat) (q : List UInt8), kp[i]? = some q → ∃ A c, vs[i]? = some (Value.slice A q.length c) ∧ Rd w3 (fun k => k < w.heap.size) (.slice A q.length c) (q.map B8)) (hvl : vs.length = L)
    (hrd : Rd w3 (fun k => k < w.heap.size) (.slice A' p.length c') (p.map B8))
    (hown4 : w4.ownsRow w.heap.size 29 1 (.slice (some ⟨g, 0, none⟩) (L + 1) cap) (L + 1) (vs ++ [.slice A' p.length c'])) (hgrow4 : (w3.alloc o1).grownBy w4 (Value.slice A7 L c7).ownBlock)
    (hat4 : (Value.slice A7 L c7).ownBlock = some g ∨ w3.heap.size ≤ g) : GrowRel w (kp ++ [p]) b (.slice (some ⟨g, 0, none⟩) (L + 1) cap) X w4 := by
  obtain ⟨h1, h2, h3, F, h4, h5⟩ := hG
  have hlt7 : ∀ j, (Value.slice A7 L c7).ownBlock = some j → j < w2.heap.size ∧ w.heap.size ≤ j := fun j hj => by
    obtain ⟨vs', ho, _⟩ := h1
    exact ⟨(ho.lt j hj).2, (ho.lt j hj).1⟩
  have ho4 : Only (fun k => (Value.slice A7 L c7).ownBlock = some k) w3 w4 := ((Only.refl _ w3).alloc o1).grown hgrow4 (fun _ hk _ => hk)
  have hs23 := ho3.size
  have hb3 : Below w.heap.size w w3 := h2.trans (ho3.belowN h2.size (fun k hk hf => by have := (hFL k hf).1; omega))
  refine ⟨⟨vs ++ [.slice A' p.length c'], by rw [List.length_append, hL]; exact hown4, fun i q hq => ?_⟩, hb3.trans (ho4.belowN hb3.size (fun k hk e => by have := (hlt7 k e).2; omega)), ?_, fun k => F3 k ∧ k < w3.heap.size, ?_, ?_⟩
  · rw [List.getElem?_append] at hq ⊢
    split at hq
    · rename_i hi
      obtain ⟨A, c, ha, hr⟩ := hvi i q hq
      exact ⟨A, c, by rw [if_pos (by omega)]; exact ha, hr.only ho4 (fun k hk e => by have := (hlt7 k e).2; omega)⟩
    · rename_i hi
      have hi0 : i - kp.length = 0 := by have := (List.getElem?_eq_some_iff.1 hq).1; simp at this; omega
      rw [hi0] at hq
      simp at hq
      subst hq
      exact ⟨A', c', by rw [if_neg (by omega), hvl, ← hL, hi0]; rfl, hrd.only ho4 (fun k hk e => by have := (hlt7 k e).2; omega)⟩
  · intro j hj hx
    injection hj with hj
    subst hj
    rcases hat4 with h | h
    · exact h3 _ h hx
    · have := hX _ hx; have : g < w2.heap.size := this; omega
  · refine hlog3.bound.only ho4 (fun k hk e => ?_)
    rcases hF3 k hk.1 with h | h
    · exact (hFL k h).2.1 e
    · have := (hlt7 k e).1; omega
  · intro j hj
    have hjs := ho4.size
    refine ⟨?_, ?_, by omega, ?_⟩
    · rcases hF3 j hj.1 with h | h
      · exact (hFL j h).1
      · have := h2.size; omega
    · intro e
      injection e with e
      have e' : g = j := e
      subst e'
      rcases hat4 with h | h
      · rcases hF3 g hj.1 with h' | h'
        · exact (hFL g h').2.1 h
        · have := (hlt7 g h).1; omega
      · omega
    · intro hx
      rcases hF3 j hj.1 with h | h
      · exact (hFL j h).2.2.2 hx
      · have := hX j hx; omega

/-- A row of bytes of one's own, each made one greater: after some. -/
def BumpRel (base : Nat) (v : Value) (n : Nat) (w4 : World) (i : Value) (wi : World) : Prop :=
  ∃ (j : Nat) (zs : List UInt8), j ≤ n ∧ i = .int .i64 j ∧ zs.length = n ∧ wi.ownsRow base 5 1 v n (zs.map B8) ∧ Only (fun k => v.ownBlock = some k) w4 wi

theorem bump_at {base n c j : Nat} {A : Option Addr} {w4 wi : World} {zs : List UInt8} (hl : zs.length = n) (hj : j < n) (hown : wi.ownsRow base 5 1 (.slice A n c) n (zs.map B8)) (ho : Only (fun k => (Value.slice A n c).ownBlock = some k) w4 wi) :
    ∃ g x, A = some ⟨g, 0, none⟩ ∧ wi.cell? ⟨g, j, none⟩ = some (.int .u8 ((x : UInt8).toNat : Int)) ∧ wi.frozen? ⟨g, j, none⟩ = false ∧
      BumpRel base (.slice A n c) n w4 (.int .i64 ((j : Int) + 1)) (wi.setCell ⟨g, j, none⟩ (.int .u8 (((x.toNat : Int) + 1) % 256))) := by
  obtain ⟨g, cap, hv, _, _⟩ := hown.form (by omega)
  injection hv with e1 _ e3
  subst e1 e3
  have hx : (zs.map B8)[j]? = some (B8 (zs[j]'(by omega))) := by simp [hl, hj]
  refine ⟨g, zs[j]'(by omega), rfl, ?_, hown.frozenAt j, ?_⟩
  · rw [hown.cellAt j (by omega), hx]; rfl
  · have hst := hown.stored j (.int .u8 ((((zs[j]'(by omega)).toNat : Int) + 1) % 256))
    refine ⟨j + 1, zs.set j (zs[j]'(by omega) + 1), by omega, by simp, by simpa using hl, ?_, ?_⟩
    · have e : (zs.set j (zs[j]'(by omega) + 1)).map B8 = (zs.map B8).set j (.int .u8 ((((zs[j]'(by omega)).toNat : Int) + 1) % 256)) := by
        rw [List.map_set]
        congr 1
      rw [e]
      exact hst.1
    · exact ho.grown hst.2 (fun k hk _ => by injection hk with hk; subst hk; rfl)

set_option maxRecDepth 100000 in
set_option maxHeartbeats 4000000 in
theorem grows_true (w : World) (F : Nat → Prop) (v : Value) (ps : List (List UInt8)) (n : Int) (hr : RowsRd w F v ps) (hf : FewP ps) (hn1 : -9223372036854775808 ≤ n) (hn2 : n ≤ 9223372036854775807) :
    Calls Try.prog 3 #[v, .int .i64 n] w fun e w' => e = .returned (.bool true) ∧ Below w.heap.size w w' := by
  obtain ⟨i0, hi, hz0, hz1, hz2⟩ := info_parts Try.info5
  obtain ⟨i1, hi1, hy0, hy1, hy2⟩ := info_parts Try.info29
  have HR := Lib.hid hr.bound
  obtain ⟨A, c, rfl, hc, hm, hatw⟩ := hr.bound.at_
  have HATW := Lib.hid hatw
  have HF := Lib.hid hf
  have h40 : ps.length ≤ 40 := hf.2.1
  clear hr hf hatw
  unfold maxLen at hm
  go_enter Try.func3, Try.ntmps3
  go_wp2_with fail
  refine (few_true w _ _ ps HR.out HF.out).mono ?_
  rintro e w' ⟨rfl, rfl⟩
  go_wp2_with fail
  refine (log_new w (fun _ => False) _ [] (RowsRd.nil _ _) (fun _ h => h.elim) (by simp)).mono ?_
  rintro e w1 ⟨hbl1, hP⟩
  rw [if_pos (by simp)] at hP
  obtain ⟨b, rfl, hlog1⟩ := hP
  go_wp2_with fail
  go_loopw [7, 8] (fun v i wr => ∃ k : Nat, k ≤ ps.length ∧ i = .int .i64 k ∧ GrowRel w (keep (ps.take k)) b v (fun _ => False) wr) (fun _ i _ => ps.length - (intOf i).toNat)
  case atStart =>
    refine ⟨0, Nat.zero_le _, rfl, ⟨[], World.ownsRow_nil _ _ _ _, fun i p hp => by simp [keep] at hp⟩, hbl1, fun _ _ h => h, _, hlog1.bound, fun j hj => ⟨hj.1, by simp [Value.ownBlock], hj.2, fun h => h⟩⟩
  case round =>
    obtain ⟨k, hk, rfl, hG⟩ := hrel
    by_cases hlt : k < ps.length
    · obtain ⟨p, hp⟩ : ∃ p, ps[k]? = some p := ⟨_, List.getElem?_eq_getElem hlt⟩
      have hp9 : p.length ≤ 9000 := HF.out.1 p (List.mem_of_getElem? hp)
      have hks := keep_snoc (ps.take k) p
      rw [show ps.take k ++ [p] = ps.take (k + 1) by rw [List.take_add_one, hp]; rfl] at hks
      have hkl : (keep (ps.take k)).length ≤ 40 := by have := keep_le (ps.take k); simp at this; omega
      have HG := Lib.hid hG
      obtain ⟨⟨vs, hvo, hvi⟩, hblr, _, FL, hlog, hFL⟩ := hG
      obtain ⟨A7, c7, rfl⟩ := ownsRow_slice hvo
      obtain ⟨bb, oo, A', c', rfl, hcellw, hrdw⟩ := HATW.out k p hp
      have hbb : bb < w.heap.size := World.block_lt_of_cell? w _ hcellw
      have hcell : wr.cell? ⟨bb, oo + k, none⟩ = some (.slice A' p.length c') := (hblr.cell (p := ⟨bb, oo + k, none⟩) hbb).trans hcellw
      have hrdw' : Rd w (fun k => k < w.heap.size) (.slice A' p.length c') (p.map B8) := hrdw.mono (fun k hk => hk.2)
      have hrd : Rd wr (fun k => k < w.heap.size) (.slice A' p.length c') (p.map B8) := hrdw'.only hblr.onlyGe (fun k hk e => by omega)
      have hnil := World.ownsRow_nil wr wr.heap.size 5 1
      have c1 : (0 + (p.map B8).length) * 1 ≤ 140737488355328 := by simp; omega
      have c2 : 0 + (p.map B8).length ≤ maxLen := by simp [maxLen]; omega
      have HA := Lib.hid (And.intro hks (And.intro hvo (And.intro hvi (And.intro hlog (And.intro hFL (And.intro hrd (And.intro hnil (And.intro c1 c2))))))))
      have HRW := Lib.hid hrdw'
      clear hks hvo hvi hlog hFL hrd hp hnil c1 c2 hrdw hrdw'
      generalize hkk : keep (ps.take k) = kp at *
      generalize hkk1 : keep (ps.take (k + 1)) = kp1 at *
      have HK := Lib.hid (And.intro hkk hkk1)
      clear hkk hkk1
      go_wp2_with (at_builtin; refine wpList_append_rd _ rfl _ _ 29 rfl wr.heap.size 5 i0 (.int .u8 0) 1 Try.underlying29 hi hz0 hz1 hz2 rfl (.slice none 0 0) 0 [] rfl HA.out.2.2.2.2.2.2.1 _ _ (p.map B8) rfl HA.out.2.2.2.2.2.1 (B8_one p) HA.out.2.2.2.2.2.2.2.1 HA.out.2.2.2.2.2.2.2.2 (Nat.le_refl _) ?_; intro v9 w2 hown2 hgrow2 _)
      have hown2' : w2.ownsRow wr.heap.size 5 1 v9 p.length (p.map B8) := by simpa using hown2
      obtain ⟨A9, c9, hv9⟩ := ownsRow_slice hown2'
      rw [hv9] at hown2' ⊢
      have hbl2 : Below wr.heap.size wr w2 := (Only.of_grownBy hgrow2).below (fun k _ h => by simp [Value.ownBlock] at h)
      have hlog2 := HA.out.2.2.2.1.below hbl2
      have hrd2 : Rd w2 (fun k => wr.heap.size ≤ k) (.slice A9 p.length c9) (p.map B8) := Rd.of_own hown2' (fun g hg => (hown2'.lt g hg).1)
      have hsz2 := hbl2.size
      have hszr := hblr.size
      clear hown2 hgrow2 hv9
      by_cases hle : p.length ≤ 8192
      · refine (append_ok w2 FL b kp hlog2 (by omega) _ A9 p.length c9 p hrd2 hle).mono ?_
        rintro e w3 ⟨rfl, ho3, F3, hlog3, hF3⟩
        have hX9 : ∀ j, (Value.slice A9 p.length c9).ownBlock = some j → wr.heap.size ≤ j ∧ j < w2.heap.size := fun j hj => hown2'.lt j hj
        have hG2 : GrowRel w kp b (.slice A7 kp.length c7) (fun j => (Value.slice A9 p.length c9).ownBlock = some j) w2 := grow_weak (grow_fresh HG.out hbl2) (fun j hj _ => (hX9 j hj).1)
        have hFL : ∀ j, FL j → w.heap.size ≤ j ∧ (Value.slice A7 kp.length c7).ownBlock ≠ some j ∧ j < w2.heap.size ∧ ¬ (Value.slice A9 p.length c9).ownBlock = some j := fun j hj => by
          obtain ⟨a1, a2, a3, _⟩ := HA.out.2.2.2.2.1 j hj
          exact ⟨a1, a2, by omega, fun h => by have := (hX9 j h).1; omega⟩
        have hvo3 : w3.ownsRow w.heap.size 29 1 (.slice A7 kp.length c7) kp.length vs := own_only (own_below HA.out.2.1 hbl2) ho3 (fun g hg hf => (hFL g hf).2.1 hg)
        have hvi3 : ∀ (i : Nat) (q : List UInt8), kp[i]? = some q → ∃ A c, vs[i]? = some (Value.slice A q.length c) ∧ Rd w3 (fun k => k < w.heap.size) (.slice A q.length c) (q.map B8) := fun i q hq => by
          obtain ⟨A, c, ha, hr⟩ := HA.out.2.2.1 i q hq
          exact ⟨A, c, ha, (hr.below hbl2).only ho3 (fun k hk hf => by have := (hFL k hf).1; omega)⟩
        have hvl : vs.length = kp.length := by simpa using hvo3.1
        have hown3 : w3.ownsRow wr.heap.size 5 1 (.slice A9 p.length c9) p.length (p.map B8) := own_only hown2' ho3 (fun g hg hf => (hFL g hf).2.2.2 hg)
        have hbl3 : Below w.heap.size w w3 := (hblr.trans (hbl2.mono hszr)).trans (ho3.belowN (by omega) (fun j hj hf => by have := (hFL j hf).1; omega))
        have hcell3 : w3.cell? ⟨bb, oo + k, none⟩ = some (.slice A' p.length c') := (hbl3.cell (p := ⟨bb, oo + k, none⟩) hbb).trans hcellw
        have hrd3 : Rd w3 (fun k => k < w.heap.size) (.slice A' p.length c') (p.map B8) := HRW.out.only hbl3.onlyGe (fun k hk e => by omega)
        have hsz3 := ho3.size
        have c1 : kp.length + 1 ≤ maxLen := by simp only [maxLen]; omega
        have c2 : (kp.length + 1) * 24 ≤ 140737488355328 := by omega
        have hkp : kp1 = kp ++ [p] := by rw [HA.out.1, if_pos hle]
        have hvo3a := hvo3.alloc (.cells #[.slice A' p.length c'] 29)
        have HB := Lib.hid (And.intro hkp (And.intro hG2 (And.intro hFL (And.intro hvo3a (And.intro hvi3 (And.intro hvl (And.intro hown3 (And.intro hrd3 (And.intro c1 (And.intro c2 hX9))))))))))
        generalize hL : kp.length = L at *
        have HLL := Lib.hid hL
        clear hkp hG2 hFL hvo3 hvo3a hvi3 hvl hown3 hrd3 c1 c2 hX9 hL hrd2 hlog2 hown2' HA HG HRW
        go_wp2_with (at_builtin; refine wpList_append_lies _ rfl _ _ 22 rfl w.heap.size 29 i1 (.slice none 0 0) 1 24 Try.underlying22 hi1 hy0 hy1 hy2 rfl (by decide) (.slice A7 L c7) L vs rfl HB.out.2.2.2.1 ⟨w3.heap.size, 0, none⟩ 1 1 [.slice A' p.length c'] rfl rfl (cell_one_new _ _ _) (by simp [Value.oneCell']) (by decide) HB.out.2.2.2.2.2.2.2.2.1 HB.out.2.2.2.2.2.2.2.2.2.1 (by simp; omega) (w3.heap.size + 1) (by simp) ?_; intro g cap w4 hown4 hgrow4 hat4 hlt4)
        have hG4 : GrowRel w kp1 b (.slice (some ⟨g, 0, none⟩) (L + 1) cap) (fun j => (Value.slice A9 p.length c9).ownBlock = some j) w4 := by
          rw [HB.out.1]
          exact grow_append HLL.out HB.out.2.1 HB.out.2.2.1 (fun k hk => (HB.out.2.2.2.2.2.2.2.2.2.2 k hk).2) ho3 hlog3 hF3 HB.out.2.2.2.2.1 HB.out.2.2.2.2.2.1 HB.out.2.2.2.2.2.2.2.1 hown4 hgrow4 (hat4.imp_right (fun h => by omega))
        have hX9 := HB.out.2.2.2.2.2.2.2.2.2.2
        have hown9 : w4.ownsRow wr.heap.size 5 1 (.slice A9 p.length c9) p.length (p.map B8) := by
          have h1 := (HB.out.2.2.2.2.2.2.1).alloc (.cells #[.slice A' p.length c'] 29)
          refine own_only h1 (Only.of_grownBy hgrow4) (fun q hq e => ?_)
          have := own_own_ne h1 HB.out.2.2.2.1 (by decide) hq
          exact this e
        have HG4 := Lib.hid (And.intro hG4 (And.intro hX9 hown9))
        have HKP := Lib.hid HB.out.1
        obtain ⟨wo, rfl⟩ : ∃ wo : World, wo = wr := ⟨_, rfl⟩
        clear hG4 hX9 hown9 HB hown4 hgrow4 hat4 hlt4 hlog3 hF3 ho3
        go_loopw [12] (fun i wi => BumpRel wo.heap.size (.slice A9 p.length c9) p.length w4 i wi) (fun i _ => p.length - (intOf i).toNat)
        case atStart => exact ⟨0, p, Nat.zero_le _, rfl, rfl, HG4.out.2.2, Only.refl _ _⟩
        case round =>
          obtain ⟨j, zs, hj, rfl, hzl, hown, hoi⟩ := hrel
          by_cases hlt2 : j < p.length
          · obtain ⟨g9, x, rfl, hcx, hfx, hB⟩ := bump_at hzl hlt2 hown hoi
            have HBB := Lib.hid hB
            clear hB hown hoi hzl
            go_wp2_with fail
            go_roundw
            case rel => exact HBB.out
            case measure => simp [intOf]; omega
          · have hG5 := grow_mod HG4.out.1 hoi (fun q hq => by have := (HG4.out.2.1 q hq).1; omega)
            have HG5 := Lib.hid hG5
            obtain ⟨hh5, hbl5, _, F5, hlog5, hF5⟩ := hG5
            have hLk : kp1[L]? = some p := by rw [HKP.out]; simp [HLL.out]
            have HLG := Lib.hid (And.intro hlog5 hLk)
            clear hown hoi hzl hh5 hlog5 hF5 hLk
            go_wp2_with fail
            refine (at_ok wr F5 b kp1 HLG.out.1 L p HLG.out.2 hle).mono ?_
            rintro e w6 ⟨A13, c13, rfl, hown6, hbl6⟩
            have hG6 := grow_weak (grow_fresh HG5.out hbl6) (Y := fun q => (Value.slice A13 p.length c13).ownBlock = some q) (fun q hq _ => (hown6.lt q hq).1)
            have HG6 := Lib.hid (And.intro hG6 (And.intro hown6 hbl6.size))
            clear hG6 hown6 hbl6
            go_wp2_with fail
            obtain ⟨wp, rfl⟩ : ∃ wp : World, wp = wr := ⟨_, rfl⟩
            go_loopw [15] (fun i wi => BumpRel wp.heap.size (.slice A13 p.length c13) p.length w6 i wi) (fun i _ => p.length - (intOf i).toNat)
            case atStart => exact ⟨0, p, Nat.zero_le _, rfl, rfl, HG6.out.2.1, Only.refl _ _⟩
            case round =>
              obtain ⟨j2, zs2, hj2, rfl, hzl2, hown2, hoi2⟩ := hrel
              by_cases hlt3 : j2 < p.length
              · obtain ⟨g13, x, rfl, hcx, hfx, hB⟩ := bump_at hzl2 hlt3 hown2 hoi2
                have HBB := Lib.hid hB
                clear hB hown2 hoi2 hzl2
                go_wp2_with fail
                go_roundw
                case rel => exact HBB.out
                case measure => simp [intOf]; omega
              · have hG7 := grow_weak (grow_mod HG6.out.1 hoi2 (fun q hq => by have := (HG6.out.2.1.lt q hq).1; have := hbl5.size; omega)) (Y := fun _ => False) (fun _ h => h.elim)
                have HG7 := Lib.hid hG7
                clear hG7 hown2 hoi2 hzl2
                go_wp2_with fail
                go_roundw
                case rel => exact ⟨k + 1, by omega, by go_num, by rw [HK.out.2]; exact HG7.out⟩
                case measure => simp [intOf]; omega
      · refine (append_long w2 b A9 p.length c9 (by omega) (by omega)).mono ?_
        rintro e w3 ⟨rfl, rfl⟩
        have hkp : kp1 = kp := by rw [HA.out.1, if_neg hle]
        have hG2 : GrowRel w kp1 b (.slice A7 kp.length c7) (fun _ => False) w2 := by
          rw [hkp]
          exact grow_mod HG.out (Only.of_below hbl2 _) (fun _ h => h.elim)
        have HG2 := Lib.hid hG2
        clear hkp hG2 hrd2 hlog2 hown2'
        go_wp2_with fail
        go_roundw
        case rel => exact ⟨k + 1, by omega, by go_num, by rw [HK.out.2]; exact HG2.out⟩
        case measure => simp [intOf]; omega
    · obtain rfl : k = ps.length := by omega
      rw [List.take_length] at hG
      have hkl : (keep ps).length ≤ 40 := by have := keep_le ps; omega
      have hka := keep_all ps
      generalize keep ps = kp at *
      obtain ⟨hh, hbl, _, FL, hlog, hFL⟩ := hG
      have hrows := hh.rows
      obtain ⟨vs, hvo, _⟩ := hh
      obtain ⟨A7, c7, rfl⟩ := ownsRow_slice hvo
      have hcap : kp.length ≤ c7 ∧ c7 ≤ maxLen := by
        obtain ⟨vs', ⟨A', n', c', hv, hl, hc', hm', _⟩, hl2, _⟩ := hrows
        injection hv with _ e2 e3
        omega
      obtain ⟨hcap1, hcap2⟩ := hcap
      unfold maxLen at hcap2
      generalize hL : kp.length = L at *
      have H := Lib.hid (And.intro hrows (And.intro hlog (And.intro (fun j hj => (hFL j hj).2.2.1) (And.intro hka hL))))
      clear hrows hlog hFL hka hvo hL
      have hszr := hbl.size
      by_cases hout : n < 0 ∨ (L : Int) < n
      · go_wp2_with fail
        refine (prefix_out wr FL b kp H.out.2.1 n (by rw [H.out.2.2.2.2]; exact hout)).mono ?_
        rintro e w3 ⟨rfl, rfl⟩
        by_cases hneg : n < 0
        · have hd : decide (n < 0) = true := by simpa using hneg
          go_wp2_with fail
          refine (holds_ok wr FL _ b kp _ H.out.2.1 H.out.1 (by rw [H.out.2.2.2.2]; omega) H.out.2.2.2.1).mono ?_
          rintro e w4 ⟨rfl, hbl4⟩
          go_wp2_with fail
          refine (awake_ok w4).mono ?_
          rintro e w5 ⟨rfl, hbl5⟩
          go_wp2_with fail
          go_ret
          exact ⟨rfl, (hbl.trans (hbl4.mono hszr)).trans (hbl5.mono (by have := hbl4.size; omega))⟩
        · have hd : decide (n < 0) = false := by simpa using hneg
          have hgt : decide ((L : Int) < n) = true := by simp; omega
          have hgt2 : (L : Int) < n := by omega
          go_wp2_with fail
          refine (holds_ok wr FL _ b kp _ H.out.2.1 H.out.1 (by rw [H.out.2.2.2.2]; omega) H.out.2.2.2.1).mono ?_
          rintro e w4 ⟨rfl, hbl4⟩
          go_wp2_with fail
          refine (awake_ok w4).mono ?_
          rintro e w5 ⟨rfl, hbl5⟩
          go_wp2_with fail
          go_ret
          exact ⟨rfl, (hbl.trans (hbl4.mono hszr)).trans (hbl5.mono (by have := hbl4.size; omega))⟩
      · obtain ⟨m, rfl⟩ := Int.eq_ofNat_of_zero_le (by omega : 0 ≤ n)
        have hmL : m ≤ L := by omega
        have hd : decide ((m : Int) < 0) = false := by simp
        have hgt : decide ((L : Int) < (m : Int)) = false := by simp; omega
        clear hout
        go_wp2_with fail
        refine (prefix_ok wr FL b kp H.out.2.1 H.out.2.2.1 m (by rw [H.out.2.2.2.2]; exact hmL) (by rw [H.out.2.2.2.2]; omega)).mono ?_
        rintro e w3 ⟨hbl3, hP⟩
        rw [if_pos (fun p hp => H.out.2.2.2.1 p (List.mem_of_mem_take hp))] at hP
        obtain ⟨b3, rfl, hlog3⟩ := hP
        have hrows3 := (H.out.1.below hbl3).take m (by omega)
        have hsz3 := hbl3.size
        have H3 := Lib.hid (And.intro hlog3.bound hrows3)
        clear hlog3 hrows3
        go_wp2_with fail
        refine (holds_ok w3 _ _ b3 (kp.take m) _ H3.out.1 H3.out.2 (by simp; rw [H.out.2.2.2.2]; omega) (fun p hp => H.out.2.2.2.1 p (List.mem_of_mem_take hp))).mono ?_
        rintro e w4 ⟨rfl, hbl4⟩
        have hsz4 := hbl4.size
        go_wp2_with fail
        have hlen : (kp.take m).length = m := by simp; rw [H.out.2.2.2.2]; omega
        have hblA : Below w4.heap.size w4 (w4.alloc (.cells #[.int .u8 1] 5)) := (Below.refl _ _).alloc (Nat.le_refl _) _
        have hrd1 : Rd (w4.alloc (.cells #[.int .u8 1] 5)) (fun _ => True) (.slice (some ⟨w4.heap.size, 0, none⟩) 1 1) ([1].map B8) := by
          refine ⟨_, 1, 1, rfl, rfl, Nat.le_refl _, by simp [maxLen], fun _ => ⟨w4.heap.size, 0, rfl, trivial, fun j u hj => ?_⟩⟩
          have hj0 : j = 0 := by have := (List.getElem?_eq_some_iff.1 hj).1; simp at this; omega
          subst hj0
          simp at hj
          subst hj
          exact blk_cell (heap_alloc_new w4 _)
        refine (append_ok _ _ b3 (kp.take m) ((H3.out.1.below hbl4).below hblA) (by rw [hlen]; omega) _ _ 1 1 [1] hrd1 (by simp)).mono ?_
        rintro e w5 ⟨rfl, ho5, F5, hlog5, hF5⟩
        have hlog5' : LogAt w5 FL b kp := by
          refine (((H.out.2.1.bound.below hbl3).below hbl4).below hblA).only ho5 (fun k hk hf => ?_) |>.mono (fun k hk => hk.1)
          omega
        have hrows5 : RowsRd w5 (fun k => True ∧ k < wr.heap.size) (.slice A7 L c7) kp := (((H.out.1.bound.below hbl3).below hbl4).below hblA).only ho5 (fun k hk hf => by omega)
        have hbl5 : Below w.heap.size w w5 := by
          have a1 := hbl.trans (hbl3.mono hszr)
          have a2 := a1.trans (hbl4.mono (by omega))
          have a3 := a2.trans (hblA.mono (by omega))
          exact a3.trans (ho5.belowN (by simp; omega) (fun k hk hf => by omega))
        have H5 := Lib.hid (And.intro hlog5' (And.intro hrows5 (And.intro hlog5 hlen)))
        clear hlog5' hrows5 hlog5 hlen hrd1 hblA ho5
        go_wp2_with fail
        refine (holds_ok w5 FL _ b kp _ H5.out.1 H5.out.2.1 (by rw [H.out.2.2.2.2]; omega) H.out.2.2.2.1).mono ?_
        rintro e w6 ⟨rfl, hbl6⟩
        have hlog6 := H5.out.2.2.1.below hbl6
        have hl6 : ((kp.take m ++ [[1]]).length : Int) = (m : Int) + 1 := by simp [H5.out.2.2.2]
        have H6 := Lib.hid hl6
        clear hl6
        go_wp2_with fail
        refine (len_ok w6 F5 b3 _ hlog6).mono ?_
        rintro e w7 ⟨rfl, rfl⟩
        rw [H6.out]
        go_wp2_with fail
        refine (awake_ok w6).mono ?_
        rintro e w8 ⟨rfl, hbl8⟩
        go_wp2_with fail
        go_ret
        exact ⟨rfl, (hbl5.trans (hbl6.mono hbl5.size)).trans (hbl8.mono (by have := hbl5.size; have := hbl6.size; omega))⟩
end Go.Proofs.Ytphponbgbpccaaa
