/- run.Same: whether two results are the same. -/
import Derived.Test.YtfaaigfgfljdkaaGreatDoorFootZ
import Derived.Deep.QuietTactic
import Derived.BigQuiet
namespace Go.Proofs.YtfaaigfgfljdkaaGreatDoor
set_option maxRecDepth 100000
open Go.RowKit

theorem two_boxesR (w : World) (o1 o2 : Obj) : Below w.heap.size w ((w.alloc o1).alloc o2) := ((Below.refl _ _).alloc (Nat.le_refl _) _).alloc (by simp) _
/-- A result. -/
structure Res where
  value : Int
  steps : Int
  cl : List Cl
  e : Int
  deriving DecidableEq
def resCells (r : Res) (f : Value) : Array Value := #[.int .i64 r.value, .int .i64 r.steps, f, .int .i64 r.e]
set_option maxRecDepth 100000 in
set_option maxHeartbeats 1000000 in
theorem runSame_ok {w : World} {F G : Nat → Prop} {v u : Value} (a b : Res) (ha : ClRd w F v a.cl) (hb : ClRd w G u b.cl) (hl : a.cl.length ≤ 1000000) :
    Calls Tryz.prog 19 #[.agg (resCells a v), .agg (resCells b u)] w (BoolP (a = b) w) := by
  obtain ⟨v1, s1, la, e1⟩ := a
  obtain ⟨v2, s2, lb, e2⟩ := b
  simp only at ha hb hl
  obtain ⟨A, c, rfl, hnc, hcm⟩ := ha.slice
  obtain ⟨B, d, rfl, hnd, hdm⟩ := hb.slice
  unfold resCells
  simp only
  have hb0 := two_boxesR w (.cells #[.int .i64 v1, .int .i64 s1, .slice A la.length c, .int .i64 e1] 36) (.cells #[.int .i64 v2, .int .i64 s2, .slice B lb.length d, .int .i64 e2] 36)
  have H := Lib.hid (And.intro (RdK.below ha hb0) (And.intro (RdK.below hb hb0) hb0))
  clear ha hb hb0
  by_cases h1 : v1 = v2
  · subst h1
    by_cases h2 : s1 = s2
    · subst h2
      by_cases h3 : e1 = e2
      · subst h3
        obtain ⟨r, hr⟩ := bool_of (la = lb)
        have HS := Lib.hid (And.intro (same_is r hr H.out.1 H.out.2.1 hl) hr)
        clear hr
        go_enter Tryz.func19, Tryz.ntmps19
        go_wp2_with fail
        refine HS.out.1.mono ?_
        rintro e w2 ⟨rfl, hb2⟩
        have HB := Lib.hid (H.out.2.2.trans (hb2.mono H.out.2.2.size))
        clear hb2
        go_wp2_with fail
        go_ret
        exact ⟨r, (show Tells r (la = lb) from HS.out.2).congr (by simp), rfl, HB.out⟩
      · go_enter Tryz.func19, Tryz.ntmps19
        go_wp2_with fail
        go_ret
        exact BoolP.no (fun e => h3 (by injection e)) H.out.2.2
    · go_enter Tryz.func19, Tryz.ntmps19
      go_wp2_with fail
      go_ret
      exact BoolP.no (fun e => h2 (by injection e)) H.out.2.2
  · go_enter Tryz.func19, Tryz.ntmps19
    go_wp2_with fail
    go_ret
    exact BoolP.no (fun e => h1 (by injection e)) H.out.2.2
theorem runSame_is {w : World} {F G : Nat → Prop} {v u : Value} (a b : Res) (r : Bool) (hr : Tells r (a = b)) (ha : ClRd w F v a.cl) (hb : ClRd w G u b.cl) (hl : a.cl.length ≤ 1000000) :
    Calls Tryz.prog 19 #[.agg (resCells a v), .agg (resCells b u)] w (Ans r w) := (runSame_ok a b ha hb hl).mono fun _ _ h => h.ans hr
end Go.Proofs.YtfaaigfgfljdkaaGreatDoor
