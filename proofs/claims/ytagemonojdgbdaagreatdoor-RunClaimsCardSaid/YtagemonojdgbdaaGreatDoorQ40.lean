import Derived.Test.YtagemonojdgbdaaGreatDoorQ32
import Derived.Test.YtagemonojdgbdaaGreatDoorQ35
import Derived.Test.YtagemonojdgbdaaGreatDoorQ39
namespace Go.Proofs.YtagemonojdgbdaaGreatDoor
set_option maxRecDepth 100000
open Go.RowKit

def ik (b : Bool) (p : Prop) : Prop := b = true ↔ p
theorem ik.yes {p : Prop} (h : p) : ik true p := ⟨fun _ => h, fun _ => rfl⟩
theorem ik.no {p : Prop} (h : ¬ p) : ik false p := ⟨(fun e => by cases e), fun e => absurd e h⟩
theorem ik.pos {p : Prop} (h : ik true p) : p := h.1 rfl
theorem ik.neg {p : Prop} (h : ik false p) : ¬ p := fun e => by have := h.2 e; cases this
theorem ik.congr {b : Bool} {p q : Prop} (h : ik b p) (e : p ↔ q) : ik b q := h.trans e
theorem BV (p : Prop) : ∃ b : Bool, ik b p := by
 by_cases h : p
 ·exact ⟨true, .yes h⟩
 ·exact ⟨false, .no h⟩
theorem cd.below {w w' : World} {F : Nat -> Prop} {v : Value} {l : List Cl} (h : cd w F v l) (hb : Below w.heap.size w w') : cd w' F v l := bE.below h hb
def Rc (b : Bool) (w : World) (e : Ending) (w' : World) : Prop := e = .returned (.bool b) /\ Below w.heap.size w w'
theorem dP.TL {p : Prop} {r : Bool} (hr : r = true ↔ p) {w : World} {e : Ending} {w' : World} (h : dP p w e w') : Rc r w e w' := by
 obtain ⟨b, hb, rfl, hw⟩ := h
 have : b = r := by
  cases b <;> cases r <;> simp_all
 subst this
 exact ⟨rfl, hw⟩
theorem oV {w : World} {F G : Nat -> Prop} {v u : Value} {a b : List Cl} (r : Bool) (hr : ik r (ku a b)) (ha : cd w F v a) (hb : cd w G u b) (Ej : a.length <= 1000000) (hlb : b.length <= 1000000) (ga : Good a) (gb : Good b) :
  Calls Tryz.prog 32 #[.agg #[v], .agg #[u]] w (Rc r w) := (CZ w F G v u a b ha hb Ej hlb ga.proper ga.fits gb.fits).mono fun _ _ h => h.TL hr
theorem II {w : World} {F G : Nat -> Prop} {v u : Value} {a b : List Cl} (r : Bool) (hr : ik r (a = b)) (ha : cd w F v a) (hb : cd w G u b) (Ej : a.length <= 1000000) :
  Calls Tryz.prog 55 #[.agg #[v], .agg #[u]] w (Rc r w) := (Ie w F G v u a b ha hb Ej).mono fun _ _ h => h.TL hr
def ct (ok : Cl -> Bool) : List Cl -> List Cl -> List Cl × Int
 | cl, [] => (cl, 0)
 | cl, c :: l => if 64 < (ba (cl ++ [c])).length then (cl, 23) else if ok c then ct ok (cl ++ [c]) l else (cl, 21)
def tZ (w : World) (S : Nat -> Prop) (v : Value) (ok : Cl -> Bool) : Prop :=
 (v = .pointer none /\ ∀ c, ok c = true) \/ ∃ B fv f, v = .pointer (some ⟨B, 0, none⟩) /\ ¬ S B /\ w.cell? ⟨B, 0, none⟩ = some fv /\ cd w (fun k => ¬ S k) fv f /\ f.length <= 1000 /\ Good f /\ ∀ c, Ok c -> ik (ok c) (ku [c] f)
theorem tZ.only {w w' : World} {S T : Nat -> Prop} {v : Value} {ok : Cl -> Bool} (h : tZ w S v ok) (ho : Only T w w') (hT : ∀ k, T k -> S k) : tZ w' S v ok := by
 rcases h with h | ⟨B, fv, f, h1, h2, h3, h4, h5⟩
 ·exact .inl h
 ·exact .inr ⟨B, fv, f, h1, h2, ho.cell h3 (fun h => h2 (hT _ h)), h4.only ho (fun k hk h => hk (hT k h)), h5⟩
def ia (w : World) (S : Nat -> Prop) (v : Value) (cl : List Cl) : Prop := cd w (fun k => ¬ S k) v (ba cl) /\ (ba cl).length <= 64 /\ Good cl
theorem ia.only {w w' : World} {S T : Nat -> Prop} {v : Value} {cl : List Cl} (h : ia w S v cl) (ho : Only T w w') (hT : ∀ k, T k -> S k) : ia w' S v cl :=
 ⟨h.1.only ho (fun k hk h => hk (hT k h)), h.2⟩
theorem fJ {c : Cl} (h : Ok c) (hf : c.fits) : Good [c] := fun x hx => by
 rw [List.mem_singleton] at hx
 subst hx
 exact ⟨h, hf⟩
def FW (w : World) (S : Nat -> Prop) (M : Nat) (s : MS) (ok : Cl -> Bool) (cl l : List Cl) (k : Nat) (wr : World) : Prop :=
 ∃ f' mV, aB wr M { s with foot := f' } /\ ia wr S f' mV /\ Only (fun k => k = M) w wr /\ ct ok cl l = ct ok mV (l.drop k)
def K1 (w : World) (S : Nat -> Prop) (M : Nat) (s : MS) (ok : Cl -> Bool) (cl l : List Cl) (e : Ending) (w' : World) : Prop :=
 ∃ f', e = .returned (.int .i64 (ct ok cl l).2) /\ aB w' M { s with foot := f' } /\ ia w' S f' (ct ok cl l).1 /\ Only (fun k => k = M) w w'
theorem kG {l : List Cl} {k : Nat} {x : Cl} (hlt : k < l.length) (hx : l[k]? = some x) : l.drop k = x :: l.drop (k + 1) := by
 rw [List.drop_eq_getElem_cons hlt, (List.getElem?_eq_some_iff.1 hx).2]
theorem aB.JC {w : World} {M : Nat} {s : MS} (h : aB w M s) (n : Nat) : aB (w.drewN n) M s := h
theorem ia.aT {w : World} {S : Nat -> Prop} {v : Value} {cl : List Cl} {MM : Nat} (h : ia w S v cl) (hM : S MM) (n i : Nat) {u : Value} : ia ((w.drewN n).setCell ⟨MM, i, none⟩ u) S v cl :=
 h.only (xt w n MM i u) (fun k hk => by subst hk; exact hM)
theorem BW (w : World) (o1 o2 : Obj) : ((w.alloc o1).alloc o2).heap[w.heap.size + 1]? = some o2 := by
 have := heap_alloc_new (w.alloc o1) o2
 rwa [show (w.alloc o1).heap.size = w.heap.size + 1 by simp] at this
theorem ua (w : World) (o1 o2 : Obj) : Below w.heap.size w ((w.alloc o1).alloc o2) := ((Below.refl _ _).alloc (Nat.le_refl _) _).alloc (by simp) _
set_option maxHeartbeats 4000000 in
theorem FX (w : World) (S : Nat -> Prop) (M : Nat) (s : MS) (ok : Cl -> Bool) (cl l : List Cl) (v : Value) (h : aB w M s) (TM : S M) (Ow : ∀ k, S k -> k < w.heap.size) (hf : ia w S s.foot cl) (hm : tZ w S s.may ok) (hl : cd w (fun k => ¬ S k) v l) (_TN : l.length <= 1000) (hg : Good l) :
  Calls Tryz.prog 148 #[.pointer (some ⟨M, 0, none⟩), v] w (K1 w S M s ok cl l) := by
 obtain ⟨A, c, rfl, hnc, hcm⟩ := hl.slice
 unfold maxLen at hcm
 have H0 := Lib.hid (show FW w S M s ok cl l 0 w from ⟨s.foot, cl, h, hf, Only.refl _ _, rfl⟩)
 have HG := Lib.hid (And.intro TM (And.intro Ow (And.intro hm (And.intro hl hg))))
 clear h TM Ow hf hm hl hg
 go_enter Tryz.func148, Tryz.ntmps148
 go_wp2_with fail
 go_loopw [12] (fun i wr => ∃ k : Nat, k <= l.length /\ i = .int .i64 (k : Int) /\ FW w S M s ok cl l k wr) (fun i _ => l.length - (intOf i).toNat)
 case atStart => exact ⟨0, Nat.zero_le _, rfl, H0.out⟩
 case round =>
  obtain ⟨k, hk, rfl, hR⟩ := hrel
  by_cases hlt : k < l.length
  ·obtain ⟨x, hx⟩ : ∃ x, l[k]? = some x := ⟨_, List.getElem?_eq_getElem hlt⟩
   have HR := Lib.hid (And.intro hR hx)
   obtain ⟨f1, mV, r1, r2, r3, r4⟩ := hR
   have Gu := HG.out.2.2.2.1.only r3 (fun k hk h => hk (by subst h; exact HG.out.1))
   obtain ⟨b, o, rfl, hF, q0, q1, q2, q3, q4⟩ := cd.at_ Gu hx
   have Re := HG.out.2.2.2.2 x (List.mem_of_getElem? hx)
   have HX := Lib.hid (And.intro Re.1 Re.2)
   clear hx Gu Re r1 r2 r3 r4
   obtain ⟨xw, xc, xk, xl, xh⟩ := x
   simp only at q0 q1 q2 q3 q4
   have k0 := BW wr (.cells #[.bool xw, .int .i64 xc, .string ⟨xk.toArray⟩, .int .i64 xl, .int .i64 xh] 48) (.cells #[.bool xw, .int .i64 xc, .string ⟨xk.toArray⟩, .int .i64 xl, .int .i64 xh] 48)
   have b0 := ua wr (.cells #[.bool xw, .int .i64 xc, .string ⟨xk.toArray⟩, .int .i64 xl, .int .i64 xh] 48) (.cells #[.bool xw, .int .i64 xc, .string ⟨xk.toArray⟩, .int .i64 xl, .int .i64 xh] 48)
   have TP := Lib.hid (And.intro k0 b0)
   clear k0 b0
   go_wp2_with fail
   have zr := TP.out
   clear TP
   generalize (wr.alloc (.cells #[.bool xw, .int .i64 xc, .string ⟨xk.toArray⟩, .int .i64 xl, .int .i64 xh] 48)).alloc (.cells #[.bool xw, .int .i64 xc, .string ⟨xk.toArray⟩, .int .i64 xl, .int .i64 xh] 48) = W0 at zr ⊢
   obtain ⟨k0, b0⟩ := zr
   refine (zJ _ (fun _ => True) _ [⟨xw, xc, xk, xl, xh⟩] (lI k0 rfl trivial (by simp [maxLen])) (by simp) (fun c hc => by rw [List.mem_singleton] at hc; subst hc; exact HX.out.2)).mono ?_
   intro e w2 kM
   obtain ⟨v2, n2, rfl, vQ⟩ := kM.named
   have hb2 := b0.trans (vQ.1.mono b0.size)
   have hno := vQ.norm (fun c hc => by rw [List.mem_singleton] at hc; subst hc; exact HX.out.1)
   rw [jM HX.out.1] at hno
   rcases hno with ⟨ek, _⟩ | ⟨_, rfl, A2, c2, rfl, LU⟩
   ·simp at ek
   obtain ⟨⟨f1, mV, r1, r2, r3, r4⟩, hx⟩ := HR.out
   have hwr : ∀ k, S k -> k < wr.heap.size := fun k hk => Nat.lt_of_lt_of_le (HG.out.2.1 k hk) r3.size
   have TQ : cd w2 (fun k => ¬ S k) (.slice A2 1 c2) [⟨xw, xc, xk, xl, xh⟩] := bE.bC LU (bI _) (by decide) (fun g hg hs => by
    have h1 := (LU.lt g hg).1
    have h2 := hwr g hs
    have h3 := b0.size
    omega)
   have m2 := r1.below hb2
   have Rf := r2.only (Only.of_below hb2 (fun _ => False)) (fun _ h => h.elim)
   obtain ⟨A1, c1, rfl, Bz, hf2⟩ := Rf.1.slice
   have c31 := m2.foot
   have c28 := m2.may
   have lM := m2.lt
   simp only at c31 c28
   have H2 := Lib.hid (And.intro TQ (And.intro m2 (And.intro Rf (And.intro (r3.trans (Only.of_below hb2 _) (fun _ _ h => h)) (And.intro r4 hx)))))
   clear kM vQ hb2 LU r1 r2 r3 r4 hx TQ m2 Rf q0 q1 q2 q3 q4 hwr
   obtain ⟨N1, Rg⟩ : ∃ N, (ba mV).length = N := ⟨_, rfl⟩
   rw [Rg] at c31 Bz
   have Ox := Lib.hid Rg
   clear Rg
   -- BEGIN ROUND
   have hlt' : k < l.length := hlt
   have k9 := BW w2 (.cells #[.slice A2 1 c2] 87) (.cells #[.slice A1 N1 c1] 87)
   have b9 := ua w2 (.cells #[.slice A2 1 c2] 87) (.cells #[.slice A1 N1 c1] 87)
   have k7 := (gA (w2.alloc (.cells #[.slice A2 1 c2] 87)) (.cells #[.slice A1 N1 c1] 87)).block w2.heap.size (by simp)
   rw [heap_alloc_new w2 (.cells #[.slice A2 1 c2] 87)] at k7
   have TR := Lib.hid (And.intro k9 (And.intro b9 k7))
   clear k9 b9 k7
   go_wp2_with fail
   have TS := TR.out
   clear TR
   generalize (w2.alloc (.cells #[.slice A2 1 c2] 87)).alloc (.cells #[.slice A1 N1 c1] 87) = W3 at TS ⊢
   obtain ⟨k9, b9, k7⟩ := TS
   have m3 := H2.out.2.1.below b9
   have f3 := H2.out.2.2.1.only (Only.of_below b9 (fun _ => False)) (fun _ h => h.elim)
   have o3 := H2.out.2.2.2.1.trans (Only.of_below b9 (fun k => k = M)) (fun _ _ h => h)
   have r3 := H2.out.1.below b9
   rw [Ox.out] at m3 f3
   have K2 : Good mV := f3.2.2
   obtain ⟨r, hr⟩ := BV (ku [(⟨xw, xc, xk, xl, xh⟩ : Cl)] (ba mV))
   have Oy : ([(⟨xw, xc, xk, xl, xh⟩ : Cl)]).length <= 1000000 := by simp
   refine (oV r hr r3 f3.1 Oy (by have := f3.2.1; omega) (fJ HX.out.1 HX.out.2) (kE K2)).mono ?_
   rintro e w5 ⟨rfl, fx⟩
   have yI := m3.below fx
   have BX := f3.only (Only.of_below fx (fun _ => False)) (fun _ h => h.elim)
   have nv := o3.trans (Only.of_below fx (fun k => k = M)) (fun _ _ h => h)
   have Dn := (Only.of_below fx (fun _ => False)).heap k7 (fun h => h)
   have BZ := (Only.of_below fx (fun _ => False)).heap k9 (fun h => h)
   have r5 := r3.below fx
   have Oz := b9.trans (fx.mono b9.size)
   have Dp := Lib.hid Oz
   clear m3 f3 o3 k7 k9 r3 b9 fx Oz
   cases r with
   | true =>
    have Fj := vv K2.ok (fJ HX.out.1 HX.out.2).ok (by rw [jM HX.out.1]; exact hr.pos)
    have HL := Lib.hid (show ¬ 64 < (ba (mV ++ [⟨xw, xc, xk, xl, xh⟩])).length by rw [Fj]; have := BX.2.1; omega)
    have hfo := BX
    replace BX : ia w5 S (.slice A1 N1 c1) (mV ++ [⟨xw, xc, xk, xl, xh⟩]) := ⟨by rw [Fj]; exact BX.1, by rw [Fj]; exact BX.2.1, K2.append (fJ HX.out.1 HX.out.2)⟩
    have RW := Lib.hid r5
    clear Fj hr K2 r5
    have HT := Lib.hid (And.intro yI (And.intro BX (And.intro nv (And.intro hfo (And.intro Dn BZ)))))
    have d7 := bz Dn
    have d9 := bz BZ
    have FY := yI.may
    have f31 := yI.free 31
    have K3 := yI.foot
    have K4 := yI.lt
    have Pt := aJ Dn
    have Pv := aJ BZ
    have n7 : ¬ w2.heap.size = M := by omega
    have n9 : ¬ w2.heap.size + 1 = M := by omega
    simp only at FY K3
    have Ai := HG.out.2.2.1.only nv (fun k hk => by subst hk; exact HG.out.1)
    clear yI BX nv hfo Dn BZ
    rcases Ai with ⟨hv, hall⟩ | ⟨B, fv, f, hv, hB, K5, hBr, hBl, hBg, OA⟩
    ·rw [hv] at FY
     have HV := Lib.hid (And.intro hv hall)
     clear hv hall
     go_wp2_with fail
     go_quiet (fail)
     go_wp2_with fail
     go_roundw
     case rel =>
      refine ⟨k + 1, by omega, by go_num, .slice A1 N1 c1, mV ++ [⟨xw, xc, xk, xl, xh⟩], (HT.out.1.JC _).qg _, HT.out.2.1.aT (MM := M) HG.out.1 _ _, ?_, ?_⟩
      ·exact (HT.out.2.2.1.drewN _).setCell (p := ⟨M, 31, none⟩) (fun _ => rfl) _
      ·rw [H2.out.2.2.2.2.1, kG hlt' H2.out.2.2.2.2.2, ct, if_neg HL.out, if_pos (HV.out.2 _)]
     case measure => simp [intOf]; omega
    ·rw [hv] at FY
     obtain ⟨A6, c6, rfl, _⟩ := hBr.slice
     have lB := World.block_lt_of_cell? _ _ K5
     have VM : ¬ B = M := fun e => hB (by rw [e]; exact HG.out.1)
     have HV := Lib.hid (And.intro hv (And.intro hBr (And.intro hBl (And.intro hBg (OA _ HX.out.1)))))
     clear hv hB hBr hBl hBg OA
     obtain ⟨q, hq⟩ : ∃ q, ok ⟨xw, xc, xk, xl, xh⟩ = q := ⟨_, rfl⟩
     have HQ := Lib.hid (And.intro (hq ▸ HV.out.2.2.2.2) hq)
     clear hq
     go_wp2_with fail
     go_region_held3 (fun W => W.cell? ⟨w2.heap.size, 0, none⟩ = some (.slice A2 1 c2) /\ W.cell? ⟨M, 28, none⟩ = some (.pointer (some ⟨B, 0, none⟩)) /\ W.cell? ⟨B, 0, none⟩ = some (.slice A6 f.length c6)) (first | exact ⟨by assumption, by assumption, by assumption⟩ | go_keep) (first | (go_at_call 32; refine (oV q HQ.out.1 (RW.out.below ((Below.refl _ _).drew)) (HV.out.2.1.below ((Below.refl _ _).drew)) (by simp) (by have := HV.out.2.2.1; omega) (fJ HX.out.1 HX.out.2) HV.out.2.2.2.1).mono ?_; rintro e w6 ⟨rfl, gj⟩; have lJ : Below w5.heap.size w5 w6 := ll gj; have VO := (lJ.cell (p := ⟨w2.heap.size, 0, none⟩) Pt).trans d7; have VP := (lJ.cell (p := ⟨w2.heap.size + 1, 0, none⟩) Pv).trans d9; have Rh := (lJ.cell (p := ⟨M, 28, none⟩) K4).trans FY; have Ri := (lJ.cell (p := ⟨M, 31, none⟩) K4).trans K3; have Rj := (lJ.frozen (p := ⟨M, 31, none⟩) K4).trans f31; have Rk := (lJ.cell (p := ⟨B, 0, none⟩) lB).trans K5; have H6 := Lib.hid lJ; clear gj lJ))
     clear d7 d9 FY K3 f31 K5
     cases q with
     | false =>
      go_wp2_with fail
      go_ret
      have hE : ct ok cl l = (mV, 21) := by rw [H2.out.2.2.2.2.1, kG hlt' H2.out.2.2.2.2.2, ct, if_neg HL.out, HQ.out.2]; rfl
      have ES := Only.of_below H6.out (fun _ => False)
      exact ⟨.slice A1 N1 c1, by rw [hE]; rfl, HT.out.1.below H6.out, by rw [hE]; exact HT.out.2.2.2.1.only ES (fun _ h => h.elim), HT.out.2.2.1.trans (Only.of_below H6.out (fun k => k = M)) (fun _ _ h => h)⟩
     | true =>
      go_wp2_with fail
      go_roundw
      case rel =>
       refine ⟨k + 1, by omega, by go_num, .slice A1 N1 c1, mV ++ [⟨xw, xc, xk, xl, xh⟩], (HT.out.1.below H6.out).qg _, ?_, ?_, ?_⟩
       ·exact (HT.out.2.1.only (Only.of_below H6.out (fun _ => False)) (fun _ h => h.elim)).only (dF w6 M 31 _) (fun k hk => by subst hk; exact HG.out.1)
       ·exact (HT.out.2.2.1.trans (Only.of_below H6.out (fun k => k = M)) (fun _ _ h => h)).setCell (p := ⟨M, 31, none⟩) (fun _ => rfl) _
       ·rw [H2.out.2.2.2.2.1, kG hlt' H2.out.2.2.2.2.2, ct, if_neg HL.out, HQ.out.2]; rfl
      case measure => simp [intOf]; omega
   | false =>
    have hwn := hr.neg
    have HW := Lib.hid (And.intro yI (And.intro BX (And.intro nv (And.intro Dn (And.intro BZ r5)))))
    have d7 := bz Dn
    have d9 := bz BZ
    have VQ := ez BZ
    have Pt := aJ Dn
    have Pv := aJ BZ
    have HC := Lib.hid (Ix w5 (fun k => ¬ S k) (fun k => ¬ S k) _ _ (ba mV) [⟨xw, xc, xk, xl, xh⟩] BX.1 r5 (by have := BX.2.1; omega) (by simp) (kE K2).fits (fJ HX.out.1 HX.out.2).fits)
    have Rl := Lib.hid K2
    clear yI BX nv Dn BZ r5 hr hwn K2
    go_wp2_with fail
    refine HC.out.mono ?_
    intro e w8 kM
    obtain ⟨v8, n8, rfl, vQ⟩ := kM.named
    have yU := vQ.1
    have hno := vQ.norm (fun c hc => (List.mem_append.1 hc).elim (fun h => (kE Rl.out).ok c h) (fun h => (fJ HX.out.1 HX.out.2).ok c h))
    rw [yj Rl.out (fJ HX.out.1 HX.out.2).ok] at hno
    have TT := (Only.of_below yU (fun _ => False)).heap HW.out.2.2.2.1 (fun h => h)
    have Pw := (Only.of_below yU (fun _ => False)).heap HW.out.2.2.2.2.1 (fun h => h)
    have d89 := bz Pw
    have Rm := ez Pw
    have OB := Lib.hid (And.intro yU (And.intro TT Pw))
    clear kM vQ yU TT Pw d7 d9 VQ HC
    rcases hno with ⟨ek, rfl, rfl⟩ | ⟨hshort, rfl, A7, c7, rfl, vS⟩
    ·have HL := Lib.hid ek
     clear ek
     go_wp2_with fail
     go_ret
     have hE : ct ok cl l = (mV, 23) := by rw [H2.out.2.2.2.2.1, kG hlt' H2.out.2.2.2.2.2, ct, if_pos HL.out]
     have BL : Below w2.heap.size w2 (w8.setCell ⟨w2.heap.size + 1, 0, none⟩ (.slice none 0 0)) := (Dp.out.trans (OB.out.1.mono Dp.out.size)).setCell (p := ⟨w2.heap.size + 1, 0, none⟩) (Nat.le_succ _) _
     have TU := H2.out.2.1.below BL
     rw [Ox.out] at TU
     have LX := H2.out.2.2.1.only (Only.of_below BL (fun _ => False)) (fun _ h => h.elim)
     rw [Ox.out] at LX
     exact ⟨.slice A1 N1 c1, by rw [hE]; rfl, TU, by rw [hE]; exact LX, H2.out.2.2.2.1.trans (Only.of_below BL (fun k => k = M)) (fun _ _ h => h)⟩
    ·have BL : Below w2.heap.size w2 (w8.setCell ⟨w2.heap.size + 1, 0, none⟩ (.slice A7 (ba (mV ++ [⟨xw, xc, xk, xl, xh⟩])).length c7)) := (Dp.out.trans (OB.out.1.mono Dp.out.size)).setCell (p := ⟨w2.heap.size + 1, 0, none⟩) (Nat.le_succ _) _
     have VR : cd w8 (fun k => ¬ S k) (.slice A7 (ba (mV ++ [⟨xw, xc, xk, xl, xh⟩])).length c7) (ba (mV ++ [⟨xw, xc, xk, xl, xh⟩])) := bE.bC vS (bI _) (by decide) (fun g hg hs => by
      have h1 := (vS.lt g hg).1
      have h2 := HG.out.2.1 g hs
      have h3 := H2.out.2.2.2.1.size
      have h4 := Dp.out.size
      omega)
     have OC : (Value.slice A7 (ba (mV ++ [⟨xw, xc, xk, xl, xh⟩])).length c7).ownBlock ≠ some (w2.heap.size + 1) := dH vS OB.out.2.2 (by decide)
     have TV : ia (w8.setCell ⟨w2.heap.size + 1, 0, none⟩ (.slice A7 (ba (mV ++ [⟨xw, xc, xk, xl, xh⟩])).length c7)) S (.slice A7 (ba (mV ++ [⟨xw, xc, xk, xl, xh⟩])).length c7) (mV ++ [⟨xw, xc, xk, xl, xh⟩]) := by
      refine ⟨?_, hshort, Rl.out.append (fJ HX.out.1 HX.out.2)⟩
      have ho := aU vS (dF w8 (w2.heap.size + 1) 0 (.slice A7 (ba (mV ++ [⟨xw, xc, xk, xl, xh⟩])).length c7)) (fun g hg e => by subst e; exact OC hg)
      exact bE.bC ho (bI _) (by decide) (fun g hg hs => by
       have h1 := (vS.lt g hg).1
       have h2 := HG.out.2.1 g hs
       have h3 := H2.out.2.2.2.1.size
       have h4 := Dp.out.size
       omega)
     have HL := Lib.hid (show ¬ 64 < (ba (mV ++ [⟨xw, xc, xk, xl, xh⟩])).length by omega)
     have TW := (heap_setCell_other w8 ⟨w2.heap.size + 1, 0, none⟩ w2.heap.size (.slice A7 (ba (mV ++ [⟨xw, xc, xk, xl, xh⟩])).length c7) (by simp)).trans OB.out.2.1
     have TX := heap_setCell_same w8 (w2.heap.size + 1) 0 _ _ (.slice A7 (ba (mV ++ [⟨xw, xc, xk, xl, xh⟩])).length c7) OB.out.2.2
     have Rn := Lib.hid (And.intro BL (And.intro TV (And.intro TW TX)))
     obtain ⟨N7, Aj⟩ : ∃ N, (ba (mV ++ [⟨xw, xc, xk, xl, xh⟩])).length = N := ⟨_, rfl⟩
     have WN := Lib.hid Aj
     clear BL VR OC TV TW TX vS hshort
     rw [Aj] at Rn ⊢
     clear Aj
     go_upto_region 12 with fail
     have TY := Rn.out
     clear Rn
     generalize w8.setCell ⟨w2.heap.size + 1, 0, none⟩ (.slice A7 N7 c7) = w9 at TY ⊢
     obtain ⟨BL, BX, Dn, BZ⟩ := TY
     have yI := H2.out.2.1.below BL
     rw [Ox.out] at yI
     have hfo := H2.out.2.2.1.only (Only.of_below BL (fun _ => False)) (fun _ h => h.elim)
     rw [Ox.out] at hfo
     have nv := H2.out.2.2.2.1.trans (Only.of_below BL (fun k => k = M)) (fun _ _ h => h)
     have RW := Lib.hid (H2.out.1.below BL)
     clear BL d89 Rm
     have HT := Lib.hid (And.intro yI (And.intro BX (And.intro nv (And.intro hfo (And.intro Dn BZ)))))
     have d7 := bz Dn
     have d9 := bz BZ
     have FY := yI.may
     have f31 := yI.free 31
     have K3 := yI.foot
     have K4 := yI.lt
     have Pt := aJ Dn
     have Pv := aJ BZ
     have n7 : ¬ w2.heap.size = M := by omega
     have n9 : ¬ w2.heap.size + 1 = M := by omega
     simp only at FY K3
     have Ai := HG.out.2.2.1.only nv (fun k hk => by subst hk; exact HG.out.1)
     clear yI BX nv hfo Dn BZ
     rcases Ai with ⟨hv, hall⟩ | ⟨B, fv, f, hv, hB, K5, hBr, hBl, hBg, OA⟩
     ·rw [hv] at FY
      have HV := Lib.hid (And.intro hv hall)
      clear hv hall
      go_wp2_with fail
      go_quiet (fail)
      go_wp2_with fail
      go_roundw
      case rel =>
       refine ⟨k + 1, by omega, by go_num, .slice A7 N7 c7, mV ++ [⟨xw, xc, xk, xl, xh⟩], (HT.out.1.JC _).qg _, HT.out.2.1.aT (MM := M) HG.out.1 _ _, ?_, ?_⟩
       ·exact (HT.out.2.2.1.drewN _).setCell (p := ⟨M, 31, none⟩) (fun _ => rfl) _
       ·rw [H2.out.2.2.2.2.1, kG hlt' H2.out.2.2.2.2.2, ct, if_neg HL.out, if_pos (HV.out.2 _)]
      case measure => simp [intOf]; omega
     ·rw [hv] at FY
      obtain ⟨A6, c6, rfl, _⟩ := hBr.slice
      have lB := World.block_lt_of_cell? _ _ K5
      have VM : ¬ B = M := fun e => hB (by rw [e]; exact HG.out.1)
      have HV := Lib.hid (And.intro hv (And.intro hBr (And.intro hBl (And.intro hBg (OA _ HX.out.1)))))
      clear hv hB hBr hBl hBg OA
      obtain ⟨q, hq⟩ : ∃ q, ok ⟨xw, xc, xk, xl, xh⟩ = q := ⟨_, rfl⟩
      have HQ := Lib.hid (And.intro (hq ▸ HV.out.2.2.2.2) hq)
      clear hq
      go_wp2_with fail
      go_region_held3 (fun W => W.cell? ⟨w2.heap.size, 0, none⟩ = some (.slice A2 1 c2) /\ W.cell? ⟨M, 28, none⟩ = some (.pointer (some ⟨B, 0, none⟩)) /\ W.cell? ⟨B, 0, none⟩ = some (.slice A6 f.length c6)) (first | exact ⟨by assumption, by assumption, by assumption⟩ | go_keep) (first | (go_at_call 32; refine (oV q HQ.out.1 (RW.out.below ((Below.refl _ _).drew)) (HV.out.2.1.below ((Below.refl _ _).drew)) (by simp) (by have := HV.out.2.2.1; omega) (fJ HX.out.1 HX.out.2) HV.out.2.2.2.1).mono ?_; rintro e w6 ⟨rfl, gj⟩; have lJ : Below w9.heap.size w9 w6 := ll gj; have VO := (lJ.cell (p := ⟨w2.heap.size, 0, none⟩) Pt).trans d7; have VP := (lJ.cell (p := ⟨w2.heap.size + 1, 0, none⟩) Pv).trans d9; have Rh := (lJ.cell (p := ⟨M, 28, none⟩) K4).trans FY; have Ri := (lJ.cell (p := ⟨M, 31, none⟩) K4).trans K3; have Rj := (lJ.frozen (p := ⟨M, 31, none⟩) K4).trans f31; have Rk := (lJ.cell (p := ⟨B, 0, none⟩) lB).trans K5; have H6 := Lib.hid lJ; clear gj lJ))
      clear d7 d9 FY K3 f31 K5
      cases q with
      | false =>
       go_wp2_with fail
       go_ret
       have hE : ct ok cl l = (mV, 21) := by rw [H2.out.2.2.2.2.1, kG hlt' H2.out.2.2.2.2.2, ct, if_neg HL.out, HQ.out.2]; rfl
       have ES := Only.of_below H6.out (fun _ => False)
       exact ⟨.slice A1 N1 c1, by rw [hE]; rfl, HT.out.1.below H6.out, by rw [hE]; exact HT.out.2.2.2.1.only ES (fun _ h => h.elim), HT.out.2.2.1.trans (Only.of_below H6.out (fun k => k = M)) (fun _ _ h => h)⟩
      | true =>
       go_wp2_with fail
       go_roundw
       case rel =>
        refine ⟨k + 1, by omega, by go_num, .slice A7 N7 c7, mV ++ [⟨xw, xc, xk, xl, xh⟩], (HT.out.1.below H6.out).qg _, ?_, ?_, ?_⟩
        ·exact (HT.out.2.1.only (Only.of_below H6.out (fun _ => False)) (fun _ h => h.elim)).only (dF w6 M 31 _) (fun k hk => by subst hk; exact HG.out.1)
        ·exact (HT.out.2.2.1.trans (Only.of_below H6.out (fun k => k = M)) (fun _ _ h => h)).setCell (p := ⟨M, 31, none⟩) (fun _ => rfl) _
        ·rw [H2.out.2.2.2.2.1, kG hlt' H2.out.2.2.2.2.2, ct, if_neg HL.out, HQ.out.2]; rfl
       case measure => simp [intOf]; omega
   -- END ROUND
  ·obtain rfl : k = l.length := by omega
   obtain ⟨f1, mV, r1, r2, r3, r4⟩ := hR
   rw [List.drop_length] at r4
   have HR := Lib.hid (And.intro r1 (And.intro r2 (And.intro r3 r4)))
   clear r1 r2 r3 r4
   go_wp2_with fail
   go_ret
   obtain ⟨r1, r2, r3, r4⟩ := HR.out
   exact ⟨f1, by rw [r4]; rfl, r1, by rw [r4]; exact r2, r3⟩
theorem Ak (w : World) (o1 o2 : Obj) : Below w.heap.size w ((w.alloc o1).alloc o2) := ((Below.refl _ _).alloc (Nat.le_refl _) _).alloc (by simp) _
structure TZ where
 value : Int
 steps : Int
 cl : List Cl
 e : Int
 deriving DecidableEq
def nV (r : TZ) (f : Value) : Array Value := #[.int .i64 r.value, .int .i64 r.steps, f, .int .i64 r.e]
set_option maxHeartbeats 1000000 in
theorem Am {w : World} {F G : Nat -> Prop} {v u : Value} (a b : TZ) (ha : cd w F v a.cl) (hb : cd w G u b.cl) (hl : a.cl.length <= 1000000) :
  Calls Tryz.prog 31 #[.agg (nV a v), .agg (nV b u)] w (dP (a = b) w) := by
 obtain ⟨v1, s1, la, e1⟩ := a
 obtain ⟨v2, s2, lb, e2⟩ := b
 simp only at ha hb hl
 obtain ⟨A, c, rfl, hnc, hcm⟩ := ha.slice
 obtain ⟨B, d, rfl, hnd, Pp⟩ := hb.slice
 unfold nV
 simp only
 have hb0 := Ak w (.cells #[.int .i64 v1, .int .i64 s1, .slice A la.length c, .int .i64 e1] 89) (.cells #[.int .i64 v2, .int .i64 s2, .slice B lb.length d, .int .i64 e2] 89)
 have H := Lib.hid (And.intro (bE.below ha hb0) (And.intro (bE.below hb hb0) hb0))
 clear ha hb hb0
 by_cases h1 : v1 = v2
 ·subst h1
  by_cases h2 : s1 = s2
  ·subst h2
   by_cases h3 : e1 = e2
   ·subst h3
    obtain ⟨r, hr⟩ := BV (la = lb)
    have HS := Lib.hid (And.intro (II r hr H.out.1 H.out.2.1 hl) hr)
    clear hr
    go_enter Tryz.func31, Tryz.ntmps31
    go_wp2_with fail
    refine HS.out.1.mono ?_
    rintro e w2 ⟨rfl, hb2⟩
    have HB := Lib.hid (H.out.2.2.trans (hb2.mono H.out.2.2.size))
    clear hb2
    go_wp2_with fail
    go_ret
    exact ⟨r, (show ik r (la = lb) from HS.out.2).congr (by simp), rfl, HB.out⟩
   ·go_enter Tryz.func31, Tryz.ntmps31
    go_wp2_with fail
    go_ret
    exact dP.no (fun e => h3 (by injection e)) H.out.2.2
  ·go_enter Tryz.func31, Tryz.ntmps31
   go_wp2_with fail
   go_ret
   exact dP.no (fun e => h2 (by injection e)) H.out.2.2
 ·go_enter Tryz.func31, Tryz.ntmps31
  go_wp2_with fail
  go_ret
  exact dP.no (fun e => h1 (by injection e)) H.out.2.2
section
open Go.ChangeShapes Go.WideShapes Go.ChangeAt Go.RowKit Go.Deep
end
end Go.Proofs.YtagemonojdgbdaaGreatDoor
