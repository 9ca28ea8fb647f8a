/- The machine claims (claim): whatever claims, what may be claimed told or not. -/
import Derived.Test.YtfaaigfgfljdkaaGreatDoorNorm
import Derived.Test.YtfaaigfgfljdkaaGreatDoorFootZ
import Derived.Test.YtfaaigfgfljdkaaGreatDoorRunA
namespace Go.Proofs.YtfaaigfgfljdkaaGreatDoor
set_option maxRecDepth 100000
open Go.RowKit

/-- What claiming comes to: all that is claimed, and how it ended (OK 0, ErrMiss 21, ErrSize 23). -/
def claimGo (ok : Cl → Bool) : List Cl → List Cl → List Cl × Int
  | cl, [] => (cl, 0)
  | cl, c :: l => if 64 < (normF (cl ++ [c])).length then (cl, 23) else if ok c then claimGo ok (cl ++ [c]) l else (cl, 21)
/-- What may be claimed. -/
def MayAt (w : World) (S : Nat → Prop) (v : Value) (ok : Cl → Bool) : Prop :=
  (v = .pointer none ∧ ∀ c, ok c = true) ∨ ∃ B fv f, v = .pointer (some ⟨B, 0, none⟩) ∧ ¬ S B ∧ w.cell? ⟨B, 0, none⟩ = some fv ∧ ClRd w (fun k => ¬ S k) fv f ∧ f.length ≤ 1000 ∧ Good f ∧ ∀ c, Ok c → Tells (ok c) (WithinP [c] f)
theorem MayAt.only {w w' : World} {S T : Nat → Prop} {v : Value} {ok : Cl → Bool} (h : MayAt w S v ok) (ho : Only T w w') (hT : ∀ k, T k → S k) : MayAt w' S v ok := by
  rcases h with h | ⟨B, fv, f, h1, h2, h3, h4, h5⟩
  · exact .inl h
  · exact .inr ⟨B, fv, f, h1, h2, ho.cell h3 (fun h => h2 (hT _ h)), h4.only ho (fun k hk h => hk (hT k h)), h5⟩
/-- The machine's footprint reads as the normal form of what was claimed. -/
def FootIs (w : World) (S : Nat → Prop) (v : Value) (cl : List Cl) : Prop := ClRd w (fun k => ¬ S k) v (normF cl) ∧ (normF cl).length ≤ 64 ∧ Good cl
theorem FootIs.only {w w' : World} {S T : Nat → Prop} {v : Value} {cl : List Cl} (h : FootIs w S v cl) (ho : Only T w w') (hT : ∀ k, T k → S k) : FootIs w' S v cl :=
  ⟨h.1.only ho (fun k hk h => hk (hT k h)), h.2⟩
theorem good_one {c : Cl} (h : Ok c) (hf : c.fits) : Good [c] := fun x hx => by
  rw [List.mem_singleton] at hx
  subst hx
  exact ⟨h, hf⟩
theorem norm_one {c : Cl} : (∀ t, lev (normF [c]) t = lev [c] t) → ∀ f, WithinP (normF [c]) f ↔ WithinP [c] f := by
  intro h f
  rw [within_lev, within_lev]
  exact ⟨fun k t => by rw [← h]; exact k t, fun k t => by rw [h]; exact k t⟩
def RunClR (w : World) (S : Nat → Prop) (M : Nat) (s : MS) (ok : Cl → Bool) (cl l : List Cl) (k : Nat) (wr : World) : Prop :=
  ∃ f' clk, MachAt wr M { s with foot := f' } ∧ FootIs wr S f' clk ∧ Only (fun k => k = M) w wr ∧ claimGo ok cl l = claimGo ok clk (l.drop k)
def RunClP (w : World) (S : Nat → Prop) (M : Nat) (s : MS) (ok : Cl → Bool) (cl l : List Cl) (e : Ending) (w' : World) : Prop :=
  ∃ f', e = .returned (.int .i64 (claimGo ok cl l).2) ∧ MachAt w' M { s with foot := f' } ∧ FootIs w' S f' (claimGo ok cl l).1 ∧ Only (fun k => k = M) w w'
theorem lt_heap {w : World} {k : Nat} {o : Obj} (h : w.heap[k]? = some o) : k < w.heap.size := (Array.getElem?_eq_some_iff.1 h).1
theorem drop_at {l : List Cl} {k : Nat} {x : Cl} (hlt : k < l.length) (hx : l[k]? = some x) : l.drop k = x :: l.drop (k + 1) := by
  rw [List.drop_eq_getElem_cons hlt, (List.getElem?_eq_some_iff.1 hx).2]
theorem MachAt.drewF {w : World} {M : Nat} {s : MS} (h : MachAt w M s) (n : Nat) : MachAt (w.drewN n) M s := h
theorem FootIs.set1 {w : World} {S : Nat → Prop} {v : Value} {cl : List Cl} {MM : Nat} (h : FootIs w S v cl) (hM : S MM) (n i : Nat) {u : Value} : FootIs ((w.drewN n).setCell ⟨MM, i, none⟩ u) S v cl :=
  h.only (onlyM w n MM i u) (fun k hk => by subst hk; exact hM)
theorem new_two (w : World) (o1 o2 : Obj) : ((w.alloc o1).alloc o2).heap[w.heap.size + 1]? = some o2 := by
  have := heap_alloc_new (w.alloc o1) o2
  rwa [show (w.alloc o1).heap.size = w.heap.size + 1 by simp] at this
theorem below_two (w : World) (o1 o2 : Obj) : Below w.heap.size w ((w.alloc o1).alloc o2) := ((Below.refl _ _).alloc (Nat.le_refl _) _).alloc (by simp) _
set_option maxRecDepth 100000 in
set_option maxHeartbeats 4000000 in
theorem claim_ok (w : World) (S : Nat → Prop) (M : Nat) (s : MS) (ok : Cl → Bool) (cl l : List Cl) (v : Value) (h : MachAt w M s) (hSM : S M) (hSb : ∀ k, S k → k < w.heap.size) (hf : FootIs w S s.foot cl) (hm : MayAt w S s.may ok) (hl : ClRd w (fun k => ¬ S k) v l) (_hlen : l.length ≤ 1000) (hg : Good l) :
    Calls Tryz.prog 244 #[.pointer (some ⟨M, 0, none⟩), v] w (RunClP w S M s ok cl l) := by
  obtain ⟨A, c, rfl, hnc, hcm⟩ := hl.slice
  unfold maxLen at hcm
  have H0 := Lib.hid (show RunClR w S M s ok cl l 0 w from ⟨s.foot, cl, h, hf, Only.refl _ _, rfl⟩)
  have HG := Lib.hid (And.intro hSM (And.intro hSb (And.intro hm (And.intro hl hg))))
  clear h hSM hSb hf hm hl hg
  go_enter Tryz.func244, Tryz.ntmps244
  go_wp2_with fail
  go_loopw [12] (fun i wr => ∃ k : Nat, k ≤ l.length ∧ i = .int .i64 (k : Int) ∧ RunClR w S M s ok cl l k wr) (fun i _ => l.length - (intOf i).toNat)
  case atStart => exact ⟨0, Nat.zero_le _, rfl, H0.out⟩
  case round =>
    obtain ⟨k, hk, rfl, hR⟩ := hrel
    by_cases hlt : k < l.length
    · obtain ⟨x, hx⟩ : ∃ x, l[k]? = some x := ⟨_, List.getElem?_eq_getElem hlt⟩
      have HR := Lib.hid (And.intro hR hx)
      obtain ⟨f1, clk, r1, r2, r3, r4⟩ := hR
      have hl1 := HG.out.2.2.2.1.only r3 (fun k hk h => hk (by subst h; exact HG.out.1))
      obtain ⟨b, o, rfl, hF, q0, q1, q2, q3, q4⟩ := ClRd.at_ hl1 hx
      have hOk := HG.out.2.2.2.2 x (List.mem_of_getElem? hx)
      have HX := Lib.hid (And.intro hOk.1 hOk.2)
      clear hx hl1 hOk r1 r2 r3 r4
      obtain ⟨xw, xc, xk, xl, xh⟩ := x
      simp only at q0 q1 q2 q3 q4
      have k0 := new_two wr (.cells #[.bool xw, .int .i64 xc, .string ⟨xk.toArray⟩, .int .i64 xl, .int .i64 xh] 62) (.cells #[.bool xw, .int .i64 xc, .string ⟨xk.toArray⟩, .int .i64 xl, .int .i64 xh] 62)
      have b0 := below_two wr (.cells #[.bool xw, .int .i64 xc, .string ⟨xk.toArray⟩, .int .i64 xl, .int .i64 xh] 62) (.cells #[.bool xw, .int .i64 xc, .string ⟨xk.toArray⟩, .int .i64 xl, .int .i64 xh] 62)
      have HB0 := Lib.hid (And.intro k0 b0)
      clear k0 b0
      go_wp2_with fail
      have HB1 := HB0.out
      clear HB0
      generalize (wr.alloc (.cells #[.bool xw, .int .i64 xc, .string ⟨xk.toArray⟩, .int .i64 xl, .int .i64 xh] 62)).alloc (.cells #[.bool xw, .int .i64 xc, .string ⟨xk.toArray⟩, .int .i64 xl, .int .i64 xh] 62) = W0 at HB1 ⊢
      obtain ⟨k0, b0⟩ := HB1
      refine (new_ok _ (fun _ => True) _ [⟨xw, xc, xk, xl, xh⟩] (cl_of_block k0 rfl trivial (by simp [maxLen])) (by simp) (fun c hc => by rw [List.mem_singleton] at hc; subst hc; exact HX.out.2)).mono ?_
      intro e w2 hnp
      obtain ⟨v2, n2, rfl, hnv⟩ := hnp.named
      have hb2 := b0.trans (hnv.1.mono b0.size)
      have hno := hnv.norm (fun c hc => by rw [List.mem_singleton] at hc; subst hc; exact HX.out.1)
      rw [normF_one HX.out.1] at hno
      rcases hno with ⟨hlong, _⟩ | ⟨_, rfl, A2, c2, rfl, hO2⟩
      · simp at hlong
      obtain ⟨⟨f1, clk, r1, r2, r3, r4⟩, hx⟩ := HR.out
      have hwr : ∀ k, S k → k < wr.heap.size := fun k hk => Nat.lt_of_lt_of_le (HG.out.2.1 k hk) r3.size
      have RD2 : ClRd w2 (fun k => ¬ S k) (.slice A2 1 c2) [⟨xw, xc, xk, xl, xh⟩] := RdK.of_own hO2 (cl_len _) (by decide) (fun g hg hs => by
        have h1 := (hO2.lt g hg).1
        have h2 := hwr g hs
        have h3 := b0.size
        omega)
      have m2 := r1.below hb2
      have ft2 := r2.only (Only.of_below hb2 (fun _ => False)) (fun _ h => h.elim)
      obtain ⟨A1, c1, rfl, hf1, hf2⟩ := ft2.1.slice
      have c31 := m2.foot
      have c28 := m2.may
      have lM := m2.lt
      simp only at c31 c28
      have H2 := Lib.hid (And.intro RD2 (And.intro m2 (And.intro ft2 (And.intro (r3.trans (Only.of_below hb2 _) (fun _ _ h => h)) (And.intro r4 hx)))))
      clear hnp hnv hb2 hO2 r1 r2 r3 r4 hx RD2 m2 ft2 q0 q1 q2 q3 q4 hwr
      obtain ⟨N1, hN1⟩ : ∃ N, (normF clk).length = N := ⟨_, rfl⟩
      rw [hN1] at c31 hf1
      have HN1 := Lib.hid hN1
      clear hN1
      -- BEGIN ROUND
      have hlt' : k < l.length := hlt
      have k9 := new_two w2 (.cells #[.slice A2 1 c2] 31) (.cells #[.slice A1 N1 c1] 31)
      have b9 := below_two w2 (.cells #[.slice A2 1 c2] 31) (.cells #[.slice A1 N1 c1] 31)
      have k7 := (one_new (w2.alloc (.cells #[.slice A2 1 c2] 31)) (.cells #[.slice A1 N1 c1] 31)).block w2.heap.size (by simp)
      rw [heap_alloc_new w2 (.cells #[.slice A2 1 c2] 31)] at k7
      have HB9 := Lib.hid (And.intro k9 (And.intro b9 k7))
      clear k9 b9 k7
      go_wp2_with fail
      have HB8 := HB9.out
      clear HB9
      generalize (w2.alloc (.cells #[.slice A2 1 c2] 31)).alloc (.cells #[.slice A1 N1 c1] 31) = W3 at HB8 ⊢
      obtain ⟨k9, b9, k7⟩ := HB8
      have m3 := H2.out.2.1.below b9
      have f3 := H2.out.2.2.1.only (Only.of_below b9 (fun _ => False)) (fun _ h => h.elim)
      have o3 := H2.out.2.2.2.1.trans (Only.of_below b9 (fun k => k = M)) (fun _ _ h => h)
      have r3 := H2.out.1.below b9
      rw [HN1.out] at m3 f3
      have hgc : Good clk := f3.2.2
      obtain ⟨r, hr⟩ := bool_of (WithinP [(⟨xw, xc, xk, xl, xh⟩ : Cl)] (normF clk))
      have hlen1 : ([(⟨xw, xc, xk, xl, xh⟩ : Cl)]).length ≤ 1000000 := by simp
      refine (within_is r hr r3 f3.1 hlen1 (by have := f3.2.1; omega) (good_one HX.out.1 HX.out.2) (normF_good hgc)).mono ?_
      rintro e w5 ⟨rfl, hb5⟩
      have hm5 := m3.below hb5
      have hf5 := f3.only (Only.of_below hb5 (fun _ => False)) (fun _ h => h.elim)
      have ho5 := o3.trans (Only.of_below hb5 (fun k => k = M)) (fun _ _ h => h)
      have k57 := (Only.of_below hb5 (fun _ => False)).heap k7 (fun h => h)
      have k59 := (Only.of_below hb5 (fun _ => False)).heap k9 (fun h => h)
      have r5 := r3.below hb5
      have hb25 := b9.trans (hb5.mono b9.size)
      have HB25 := Lib.hid hb25
      clear m3 f3 o3 k7 k9 r3 b9 hb5 hb25
      cases r with
      | true =>
        have hnm := normF_within hgc.ok (good_one HX.out.1 HX.out.2).ok (by rw [normF_one HX.out.1]; exact hr.pos)
        have HL := Lib.hid (show ¬ 64 < (normF (clk ++ [⟨xw, xc, xk, xl, xh⟩])).length by rw [hnm]; have := hf5.2.1; omega)
        have hfo := hf5
        replace hf5 : FootIs w5 S (.slice A1 N1 c1) (clk ++ [⟨xw, xc, xk, xl, xh⟩]) := ⟨by rw [hnm]; exact hf5.1, by rw [hnm]; exact hf5.2.1, hgc.append (good_one HX.out.1 HX.out.2)⟩
        have RW := Lib.hid r5
        clear hnm hr hgc r5
        have HT := Lib.hid (And.intro hm5 (And.intro hf5 (And.intro ho5 (And.intro hfo (And.intro k57 k59)))))
        have d7 := blk_cell k57
        have d9 := blk_cell k59
        have e28 := hm5.may
        have f31 := hm5.free 31
        have e31 := hm5.foot
        have lM5 := hm5.lt
        have l57 := lt_heap k57
        have l59 := lt_heap k59
        have n7 : ¬ w2.heap.size = M := by omega
        have n9 : ¬ w2.heap.size + 1 = M := by omega
        simp only at e28 e31
        have hmay := HG.out.2.2.1.only ho5 (fun k hk => by subst hk; exact HG.out.1)
        clear hm5 hf5 ho5 hfo k57 k59
        rcases hmay with ⟨hv, hall⟩ | ⟨B, fv, f, hv, hB, hBc, hBr, hBl, hBg, hBt⟩
        · rw [hv] at e28
          have HV := Lib.hid (And.intro hv hall)
          clear hv hall
          go_wp2_with fail
          go_quiet (fail)
          go_wp2_with fail
          go_roundw
          case rel =>
            refine ⟨k + 1, by omega, by go_num, .slice A1 N1 c1, clk ++ [⟨xw, xc, xk, xl, xh⟩], (HT.out.1.drewF _).setFoot _, HT.out.2.1.set1 (MM := M) HG.out.1 _ _, ?_, ?_⟩
            · exact (HT.out.2.2.1.drewN _).setCell (p := ⟨M, 31, none⟩) (fun _ => rfl) _
            · rw [H2.out.2.2.2.2.1, drop_at hlt' H2.out.2.2.2.2.2, claimGo, if_neg HL.out, if_pos (HV.out.2 _)]
          case measure => simp [intOf]; omega
        · rw [hv] at e28
          obtain ⟨A6, c6, rfl, _⟩ := hBr.slice
          have lB := World.block_lt_of_cell? _ _ hBc
          have hBM : ¬ B = M := fun e => hB (by rw [e]; exact HG.out.1)
          have HV := Lib.hid (And.intro hv (And.intro hBr (And.intro hBl (And.intro hBg (hBt _ HX.out.1)))))
          clear hv hB hBr hBl hBg hBt
          obtain ⟨q, hq⟩ : ∃ q, ok ⟨xw, xc, xk, xl, xh⟩ = q := ⟨_, rfl⟩
          have HQ := Lib.hid (And.intro (hq ▸ HV.out.2.2.2.2) hq)
          clear hq
          go_wp2_with fail
          go_region_held3 (fun W => W.cell? ⟨w2.heap.size, 0, none⟩ = some (.slice A2 1 c2) ∧ W.cell? ⟨M, 28, none⟩ = some (.pointer (some ⟨B, 0, none⟩)) ∧ W.cell? ⟨B, 0, none⟩ = some (.slice A6 f.length c6)) (first | exact ⟨by assumption, by assumption, by assumption⟩ | go_keep) (first | (go_at_call 44; refine (within_is q HQ.out.1 (RW.out.below ((Below.refl _ _).drew)) (HV.out.2.1.below ((Below.refl _ _).drew)) (by simp) (by have := HV.out.2.2.1; omega) (good_one HX.out.1 HX.out.2) HV.out.2.2.2.1).mono ?_; rintro e w6 ⟨rfl, hb6⟩; have hb6' : Below w5.heap.size w5 w6 := undrew hb6; have d7' := (hb6'.cell (p := ⟨w2.heap.size, 0, none⟩) l57).trans d7; have d9' := (hb6'.cell (p := ⟨w2.heap.size + 1, 0, none⟩) l59).trans d9; have e28' := (hb6'.cell (p := ⟨M, 28, none⟩) lM5).trans e28; have e31' := (hb6'.cell (p := ⟨M, 31, none⟩) lM5).trans e31; have f31' := (hb6'.frozen (p := ⟨M, 31, none⟩) lM5).trans f31; have hBc' := (hb6'.cell (p := ⟨B, 0, none⟩) lB).trans hBc; have H6 := Lib.hid hb6'; clear hb6 hb6'))
          clear d7 d9 e28 e31 f31 hBc
          cases q with
          | false =>
            go_wp2_with fail
            go_ret
            have hE : claimGo ok cl l = (clk, 21) := by rw [H2.out.2.2.2.2.1, drop_at hlt' H2.out.2.2.2.2.2, claimGo, if_neg HL.out, HQ.out.2]; rfl
            have hO6 := Only.of_below H6.out (fun _ => False)
            exact ⟨.slice A1 N1 c1, by rw [hE]; rfl, HT.out.1.below H6.out, by rw [hE]; exact HT.out.2.2.2.1.only hO6 (fun _ h => h.elim), HT.out.2.2.1.trans (Only.of_below H6.out (fun k => k = M)) (fun _ _ h => h)⟩
          | true =>
            go_wp2_with fail
            go_roundw
            case rel =>
              refine ⟨k + 1, by omega, by go_num, .slice A1 N1 c1, clk ++ [⟨xw, xc, xk, xl, xh⟩], (HT.out.1.below H6.out).setFoot _, ?_, ?_, ?_⟩
              · exact (HT.out.2.1.only (Only.of_below H6.out (fun _ => False)) (fun _ h => h.elim)).only (only1 w6 M 31 _) (fun k hk => by subst hk; exact HG.out.1)
              · exact (HT.out.2.2.1.trans (Only.of_below H6.out (fun k => k = M)) (fun _ _ h => h)).setCell (p := ⟨M, 31, none⟩) (fun _ => rfl) _
              · rw [H2.out.2.2.2.2.1, drop_at hlt' H2.out.2.2.2.2.2, claimGo, if_neg HL.out, HQ.out.2]; rfl
            case measure => simp [intOf]; omega

      | false =>
        have hwn := hr.neg
        have HW := Lib.hid (And.intro hm5 (And.intro hf5 (And.intro ho5 (And.intro k57 (And.intro k59 r5)))))
        have d7 := blk_cell k57
        have d9 := blk_cell k59
        have d9f := blk_frozen k59
        have l57 := lt_heap k57
        have l59 := lt_heap k59
        have HC := Lib.hid (join_ok w5 (fun k => ¬ S k) (fun k => ¬ S k) _ _ (normF clk) [⟨xw, xc, xk, xl, xh⟩] hf5.1 r5 (by have := hf5.2.1; omega) (by simp) (normF_good hgc).fits (good_one HX.out.1 HX.out.2).fits)
        have HGC := Lib.hid hgc
        clear hm5 hf5 ho5 k57 k59 r5 hr hwn hgc
        go_wp2_with fail
        refine HC.out.mono ?_
        intro e w8 hnp
        obtain ⟨v8, n8, rfl, hnv⟩ := hnp.named
        have hb8 := hnv.1
        have hno := hnv.norm (fun c hc => (List.mem_append.1 hc).elim (fun h => (normF_good HGC.out).ok c h) (fun h => (good_one HX.out.1 HX.out.2).ok c h))
        rw [normF_again HGC.out (good_one HX.out.1 HX.out.2).ok] at hno
        have k87 := (Only.of_below hb8 (fun _ => False)).heap HW.out.2.2.2.1 (fun h => h)
        have k89 := (Only.of_below hb8 (fun _ => False)).heap HW.out.2.2.2.2.1 (fun h => h)
        have d89 := blk_cell k89
        have d89f := blk_frozen k89
        have HW8 := Lib.hid (And.intro hb8 (And.intro k87 k89))
        clear hnp hnv hb8 k87 k89 d7 d9 d9f HC
        rcases hno with ⟨hlong, rfl, rfl⟩ | ⟨hshort, rfl, A7, c7, rfl, hO7⟩
        · have HL := Lib.hid hlong
          clear hlong
          go_wp2_with fail
          go_ret
          have hE : claimGo ok cl l = (clk, 23) := by rw [H2.out.2.2.2.2.1, drop_at hlt' H2.out.2.2.2.2.2, claimGo, if_pos HL.out]
          have hbf : Below w2.heap.size w2 (w8.setCell ⟨w2.heap.size + 1, 0, none⟩ (.slice none 0 0)) := (HB25.out.trans (HW8.out.1.mono HB25.out.size)).setCell (p := ⟨w2.heap.size + 1, 0, none⟩) (Nat.le_succ _) _
          have hm9 := H2.out.2.1.below hbf
          rw [HN1.out] at hm9
          have hf9 := H2.out.2.2.1.only (Only.of_below hbf (fun _ => False)) (fun _ h => h.elim)
          rw [HN1.out] at hf9
          exact ⟨.slice A1 N1 c1, by rw [hE]; rfl, hm9, by rw [hE]; exact hf9, H2.out.2.2.2.1.trans (Only.of_below hbf (fun k => k = M)) (fun _ _ h => h)⟩
        · have hbf : Below w2.heap.size w2 (w8.setCell ⟨w2.heap.size + 1, 0, none⟩ (.slice A7 (normF (clk ++ [⟨xw, xc, xk, xl, xh⟩])).length c7)) := (HB25.out.trans (HW8.out.1.mono HB25.out.size)).setCell (p := ⟨w2.heap.size + 1, 0, none⟩) (Nat.le_succ _) _
          have hS7 : ClRd w8 (fun k => ¬ S k) (.slice A7 (normF (clk ++ [⟨xw, xc, xk, xl, xh⟩])).length c7) (normF (clk ++ [⟨xw, xc, xk, xl, xh⟩])) := RdK.of_own hO7 (cl_len _) (by decide) (fun g hg hs => by
            have h1 := (hO7.lt g hg).1
            have h2 := HG.out.2.1 g hs
            have h3 := H2.out.2.2.2.1.size
            have h4 := HB25.out.size
            omega)
          have hne7 : (Value.slice A7 (normF (clk ++ [⟨xw, xc, xk, xl, xh⟩])).length c7).ownBlock ≠ some (w2.heap.size + 1) := own_blk_ne hO7 HW8.out.2.2 (by decide)
          have hS8 : FootIs (w8.setCell ⟨w2.heap.size + 1, 0, none⟩ (.slice A7 (normF (clk ++ [⟨xw, xc, xk, xl, xh⟩])).length c7)) S (.slice A7 (normF (clk ++ [⟨xw, xc, xk, xl, xh⟩])).length c7) (clk ++ [⟨xw, xc, xk, xl, xh⟩]) := by
            refine ⟨?_, hshort, HGC.out.append (good_one HX.out.1 HX.out.2)⟩
            have ho := own_only hO7 (only1 w8 (w2.heap.size + 1) 0 (.slice A7 (normF (clk ++ [⟨xw, xc, xk, xl, xh⟩])).length c7)) (fun g hg e => by subst e; exact hne7 hg)
            exact RdK.of_own ho (cl_len _) (by decide) (fun g hg hs => by
              have h1 := (hO7.lt g hg).1
              have h2 := HG.out.2.1 g hs
              have h3 := H2.out.2.2.2.1.size
              have h4 := HB25.out.size
              omega)
          have HL := Lib.hid (show ¬ 64 < (normF (clk ++ [⟨xw, xc, xk, xl, xh⟩])).length by omega)
          have k97 := (heap_setCell_other w8 ⟨w2.heap.size + 1, 0, none⟩ w2.heap.size (.slice A7 (normF (clk ++ [⟨xw, xc, xk, xl, xh⟩])).length c7) (by simp)).trans HW8.out.2.1
          have k99 := heap_setCell_same w8 (w2.heap.size + 1) 0 _ _ (.slice A7 (normF (clk ++ [⟨xw, xc, xk, xl, xh⟩])).length c7) HW8.out.2.2
          have HF8 := Lib.hid (And.intro hbf (And.intro hS8 (And.intro k97 k99)))
          obtain ⟨N7, hN7⟩ : ∃ N, (normF (clk ++ [⟨xw, xc, xk, xl, xh⟩])).length = N := ⟨_, rfl⟩
          have HN7 := Lib.hid hN7
          clear hbf hS7 hne7 hS8 k97 k99 hO7 hshort
          rw [hN7] at HF8 ⊢
          clear hN7
          go_upto_region 12 with fail
          have HF9 := HF8.out
          clear HF8
          generalize w8.setCell ⟨w2.heap.size + 1, 0, none⟩ (.slice A7 N7 c7) = w9 at HF9 ⊢
          obtain ⟨hbf, hf5, k57, k59⟩ := HF9
          have hm5 := H2.out.2.1.below hbf
          rw [HN1.out] at hm5
          have hfo := H2.out.2.2.1.only (Only.of_below hbf (fun _ => False)) (fun _ h => h.elim)
          rw [HN1.out] at hfo
          have ho5 := H2.out.2.2.2.1.trans (Only.of_below hbf (fun k => k = M)) (fun _ _ h => h)
          have RW := Lib.hid (H2.out.1.below hbf)
          clear hbf d89 d89f
          have HT := Lib.hid (And.intro hm5 (And.intro hf5 (And.intro ho5 (And.intro hfo (And.intro k57 k59)))))
          have d7 := blk_cell k57
          have d9 := blk_cell k59
          have e28 := hm5.may
          have f31 := hm5.free 31
          have e31 := hm5.foot
          have lM5 := hm5.lt
          have l57 := lt_heap k57
          have l59 := lt_heap k59
          have n7 : ¬ w2.heap.size = M := by omega
          have n9 : ¬ w2.heap.size + 1 = M := by omega
          simp only at e28 e31
          have hmay := HG.out.2.2.1.only ho5 (fun k hk => by subst hk; exact HG.out.1)
          clear hm5 hf5 ho5 hfo k57 k59
          rcases hmay with ⟨hv, hall⟩ | ⟨B, fv, f, hv, hB, hBc, hBr, hBl, hBg, hBt⟩
          · rw [hv] at e28
            have HV := Lib.hid (And.intro hv hall)
            clear hv hall
            go_wp2_with fail
            go_quiet (fail)
            go_wp2_with fail
            go_roundw
            case rel =>
              refine ⟨k + 1, by omega, by go_num, .slice A7 N7 c7, clk ++ [⟨xw, xc, xk, xl, xh⟩], (HT.out.1.drewF _).setFoot _, HT.out.2.1.set1 (MM := M) HG.out.1 _ _, ?_, ?_⟩
              · exact (HT.out.2.2.1.drewN _).setCell (p := ⟨M, 31, none⟩) (fun _ => rfl) _
              · rw [H2.out.2.2.2.2.1, drop_at hlt' H2.out.2.2.2.2.2, claimGo, if_neg HL.out, if_pos (HV.out.2 _)]
            case measure => simp [intOf]; omega
          · rw [hv] at e28
            obtain ⟨A6, c6, rfl, _⟩ := hBr.slice
            have lB := World.block_lt_of_cell? _ _ hBc
            have hBM : ¬ B = M := fun e => hB (by rw [e]; exact HG.out.1)
            have HV := Lib.hid (And.intro hv (And.intro hBr (And.intro hBl (And.intro hBg (hBt _ HX.out.1)))))
            clear hv hB hBr hBl hBg hBt
            obtain ⟨q, hq⟩ : ∃ q, ok ⟨xw, xc, xk, xl, xh⟩ = q := ⟨_, rfl⟩
            have HQ := Lib.hid (And.intro (hq ▸ HV.out.2.2.2.2) hq)
            clear hq
            go_wp2_with fail
            go_region_held3 (fun W => W.cell? ⟨w2.heap.size, 0, none⟩ = some (.slice A2 1 c2) ∧ W.cell? ⟨M, 28, none⟩ = some (.pointer (some ⟨B, 0, none⟩)) ∧ W.cell? ⟨B, 0, none⟩ = some (.slice A6 f.length c6)) (first | exact ⟨by assumption, by assumption, by assumption⟩ | go_keep) (first | (go_at_call 44; refine (within_is q HQ.out.1 (RW.out.below ((Below.refl _ _).drew)) (HV.out.2.1.below ((Below.refl _ _).drew)) (by simp) (by have := HV.out.2.2.1; omega) (good_one HX.out.1 HX.out.2) HV.out.2.2.2.1).mono ?_; rintro e w6 ⟨rfl, hb6⟩; have hb6' : Below w9.heap.size w9 w6 := undrew hb6; have d7' := (hb6'.cell (p := ⟨w2.heap.size, 0, none⟩) l57).trans d7; have d9' := (hb6'.cell (p := ⟨w2.heap.size + 1, 0, none⟩) l59).trans d9; have e28' := (hb6'.cell (p := ⟨M, 28, none⟩) lM5).trans e28; have e31' := (hb6'.cell (p := ⟨M, 31, none⟩) lM5).trans e31; have f31' := (hb6'.frozen (p := ⟨M, 31, none⟩) lM5).trans f31; have hBc' := (hb6'.cell (p := ⟨B, 0, none⟩) lB).trans hBc; have H6 := Lib.hid hb6'; clear hb6 hb6'))
            clear d7 d9 e28 e31 f31 hBc
            cases q with
            | false =>
              go_wp2_with fail
              go_ret
              have hE : claimGo ok cl l = (clk, 21) := by rw [H2.out.2.2.2.2.1, drop_at hlt' H2.out.2.2.2.2.2, claimGo, if_neg HL.out, HQ.out.2]; rfl
              have hO6 := Only.of_below H6.out (fun _ => False)
              exact ⟨.slice A1 N1 c1, by rw [hE]; rfl, HT.out.1.below H6.out, by rw [hE]; exact HT.out.2.2.2.1.only hO6 (fun _ h => h.elim), HT.out.2.2.1.trans (Only.of_below H6.out (fun k => k = M)) (fun _ _ h => h)⟩
            | true =>
              go_wp2_with fail
              go_roundw
              case rel =>
                refine ⟨k + 1, by omega, by go_num, .slice A7 N7 c7, clk ++ [⟨xw, xc, xk, xl, xh⟩], (HT.out.1.below H6.out).setFoot _, ?_, ?_, ?_⟩
                · exact (HT.out.2.1.only (Only.of_below H6.out (fun _ => False)) (fun _ h => h.elim)).only (only1 w6 M 31 _) (fun k hk => by subst hk; exact HG.out.1)
                · exact (HT.out.2.2.1.trans (Only.of_below H6.out (fun k => k = M)) (fun _ _ h => h)).setCell (p := ⟨M, 31, none⟩) (fun _ => rfl) _
                · rw [H2.out.2.2.2.2.1, drop_at hlt' H2.out.2.2.2.2.2, claimGo, if_neg HL.out, HQ.out.2]; rfl
              case measure => simp [intOf]; omega

      -- END ROUND
    · obtain rfl : k = l.length := by omega
      obtain ⟨f1, clk, r1, r2, r3, r4⟩ := hR
      rw [List.drop_length] at r4
      have HR := Lib.hid (And.intro r1 (And.intro r2 (And.intro r3 r4)))
      clear r1 r2 r3 r4
      go_wp2_with fail
      go_ret
      obtain ⟨r1, r2, r3, r4⟩ := HR.out
      exact ⟨f1, by rw [r4]; rfl, r1, by rw [r4]; exact r2, r3⟩
end Go.Proofs.YtfaaigfgfljdkaaGreatDoor
