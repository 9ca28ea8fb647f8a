/- The chapter's example of law12 (awake): a run over a table without rows. -/
import Derived.Test.YtfaaigfgfljdkaaGreatDoorRunF
import Derived.Test.YtfaaigfgfljdkaaGreatDoorRunS
import Derived.Test.YtfaaigfgfljdkaaGreatDoorBufE
namespace Go.Proofs.YtfaaigfgfljdkaaGreatDoor
set_option maxRecDepth 100000
open Go.RowKit

/-- Nothing that was there has turned. -/
def Still (w0 : World) : Unit → World → Prop := fun _ w => Below w0.heap.size w0 w
theorem still_ok (w0 : World) : KOk w0.heap.size (Still w0) := by
  intro r w w' G hG h ho
  refine ⟨ho.os.trans h.os, ho.tape.trans h.tape, ho.output.trans h.output, Nat.le_trans h.size ho.size, fun k hk => ?_⟩
  exact (ho.block k (Nat.lt_of_lt_of_le hk h.size) (fun hg => by have := hG k hg; omega)).trans (h.block k hk)
theorem still_get {w0 : World} {B T L : Nat} {most n : Int} (h : BufE w0 B T most n L) : GetOk (.pointer (some ⟨B, 0, none⟩)) (Still w0) (fun _ _ => none) := by
  intro r w k hK hk
  have hkl : 1 ≤ k.length ∧ k.length ≤ 16 := by
    unfold keyErr at hk
    split at hk
    · cases hk
    · omega
  exact (bufGet0_ok w B T L most n k hkl.1 hkl.2 (h.below hK)).mono (fun e w' h => ⟨by rw [h.1]; rfl, h.2⟩)
theorem still_tab {w0 : World} (h : Tab10 w0) : KTab (Still w0) := fun _ _ hK => h.below hK
/-- set, or has. -/
def act2 (ok : Cl → Bool) (x : POp) (s : PS Unit) : PS Unit × Int := if x.d = 1 then setPs x s else hasPs ok (fun _ _ => none) x s
def exOps : List POp := [⟨1, 0, 0, 7, 0⟩, ⟨7, 1, 0, 0, 0⟩]
theorem itoa7 : Lib.itoa 7 = [55] := by
  unfold Lib.itoa
  rw [if_neg (by decide), Lib.decDigits_eq]
  simp [Lib.nDigits_small]
  rfl
theorem clRow7 : clRow 7 = ⟨false, -1, [55], 0, 0⟩ := by unfold clRow; rw [itoa7]
theorem exRun : blockP 9 exOps (act2 (fun _ => true)) (2 : Nat) 2 (startP [] ()) = (⟨2, updR (updR (fun _ => 0) 0 7) 1 0, 2, [clRow 7], 0, ()⟩, 0) := by
  have h7 : Good [clRow 7] := clRow_good ⟨by decide, by decide⟩
  have hn : normF [clRow 7] = [clRow 7] := normF_one (h7 _ (by simp)).1
  have hu : updR (fun _ => 0) 0 7 0 = 7 := rfl
  simp [blockP, exOps, act2, setPs, hasPs, rowP, startP, fillR, claimGo, hn, hu]
theorem hasPs_pc {R : Type} (ok : Cl → Bool) (get : R → List UInt8 → Option Rw) (x : POp) (s : PS R) : (hasPs ok get x s).1.pc = s.pc := by
  unfold hasPs rowP
  simp only
  split <;> rfl
theorem exActs (w : World) {B T L : Nat} {most n : Int} (hB : BufE w B T most n L) (ht : Tab10 w) (c : RC) (hf : c.Fit) (ho : c.ops = exOps) (hb : c.b = .pointer (some ⟨B, 0, none⟩)) (hk : c.ok = fun _ => true) (hl : w.heap.size ≤ c.lo) : ActsOk c (Still w) (act2 (fun _ => true)) 0 2 := by
  have hK : KOk c.lo (Still w) := fun r w1 w2 G hG h ho => still_ok w r w1 w2 G (fun k hk => Nat.le_trans hl (hG k hk)) h ho
  intro i x _ hi hx
  rw [ho] at hx
  have hi' : i = 0 ∨ i = 1 := by omega
  rcases hi' with rfl | rfl
  · simp only [exOps, List.getElem?_cons_zero, Option.some.injEq] at hx
    subst hx
    refine ⟨by decide, fun s _ => ⟨fun w' h' => ?_, fun _ => Int.le_refl _⟩⟩
    exact mset_ok hf hK h' ⟨1, 0, 0, 7, 0⟩ 0 (by decide) rfl (by decide)
  · simp only [exOps, List.getElem?_cons_succ, List.getElem?_cons_zero, Option.some.injEq] at hx
    subst hx
    refine ⟨by decide, fun s _ => ⟨fun w' h' => ?_, fun _ => ?_⟩⟩
    · have := mhas_ok (get := fun _ _ => none) hf hK (still_tab ht) (by rw [hb]; exact still_get hB) h' ⟨7, 1, 0, 0, 0⟩ 1 0 (by decide) (by decide) rfl rfl
      rw [hk] at this
      exact this
    · show s.pc ≤ (hasPs (fun _ => true) (fun _ _ => none) ⟨7, 1, 0, 0, 0⟩ s).1.pc
      rw [hasPs_pc]
      exact Int.le_refl _
set_option maxRecDepth 100000 in
set_option maxHeartbeats 4000000 in
theorem awake12_ok (w : World) (hs : ShTab w) (ht : Tab10 w) : Calls Tryz.prog 13 #[] w fun e w' => e = .returned (.bool true) ∧ Below w.heap.size w w' := by
  have H := Lib.hid (And.intro hs ht)
  clear hs ht
  go_enter Tryz.func13, Tryz.ntmps13
  go_wp2_with fail
  refine (tableNew_ok w 4 2 (by decide) (by decide) (by decide) (by decide)).mono ?_
  rintro e w1 ⟨T, rfl, hTl, hT, hb1⟩
  have HB1 := Lib.hid hb1
  clear hb1
  go_wp2_with fail
  refine (bufNew_ok w1 T _ 4 2 hT).mono ?_
  rintro e w2 ⟨B, rfl, hBl, hB, hb2⟩
  have hbx := one_new w2 (.cells #[.int .i64 1, .int .i64 0, .int .i64 0, .int .i64 7, .int .i64 0, .int .i64 7, .int .i64 1, .int .i64 0, .int .i64 0, .int .i64 0] 160)
  have kx := heap_alloc_new w2 (.cells #[.int .i64 1, .int .i64 0, .int .i64 0, .int .i64 7, .int .i64 0, .int .i64 7, .int .i64 1, .int .i64 0, .int .i64 0, .int .i64 0] 160)
  have HB2 := Lib.hid (And.intro hB (And.intro (HB1.out.trans (hb2.mono HB1.out.size)) (And.intro hbx kx)))
  clear hT hTl hBl hB hb2 hbx kx
  go_wp2_with fail
  have HB3 := HB2.out
  clear HB2
  generalize w2.alloc (.cells #[.int .i64 1, .int .i64 0, .int .i64 0, .int .i64 7, .int .i64 0, .int .i64 7, .int .i64 1, .int .i64 0, .int .i64 0, .int .i64 0] 160) = w3 at HB3 ⊢
  obtain ⟨hB, hb2, hbx, kx⟩ := HB3
  have hb3 := hb2.trans (hbx.mono hb2.size)
  have hB3 := hB.below hbx
  have ht3 := H.out.2.below hb3
  have hops : OpRd w3 (fun _ => ¬ False) (.slice (some ⟨w2.heap.size, 0, none⟩) 2 2) exOps := by
    refine ⟨_, _, _, rfl, rfl, Nat.le_refl _, by simp [maxLen], fun _ => ⟨w2.heap.size, 0, rfl, fun h => h, fun i x hi j u hj => ?_⟩⟩
    have h1 := flat_at (k := 5) (xs := exOps.map POp.cells) (fun y hy => by obtain ⟨z, _, rfl⟩ := List.mem_map.1 hy; rfl) i x hi j u hj
    rw [World.cell?, kx]
    have h2 : (#[.int .i64 1, .int .i64 0, .int .i64 0, .int .i64 7, .int .i64 0, .int .i64 7, .int .i64 1, .int .i64 0, .int .i64 0, .int .i64 0] : Array Value).toList = (exOps.map POp.cells).flatten := rfl
    rw [← h2] at h1
    simpa using h1
  have hrun := run_ok (K := Still w3) (T := fun _ => False) (F := fun _ => True) (act := act2 (fun _ => true)) w3 exOps _ (.slice none 0 0) [] B 9 (.pointer none) (fun _ => true) () hops (by decide) (H.out.1.below hb3) (Rd.nil _ _) (by decide) (by simp) (by decide) (.inl ⟨rfl, fun _ => rfl⟩) (Below.refl _ _) (still_ok w3) (fun _ h => h.elim)
    (fun c h1 h2 h3 h4 h5 h6 h7 _ _ => exActs w3 hB3 ht3 c h1 h2 h3 h6 h7)
  rw [show exOps.length = 2 from rfl, exRun] at hrun
  have HRun := Lib.hid hrun
  have HB3 := Lib.hid hb3
  clear hB hb2 hbx kx hb3 hB3 ht3 hops hrun
  refine HRun.out.mono ?_
  rintro e w4 ⟨f, rfl, hf, hfl, hfg, _, ho4⟩
  simp only [if_true]
  rw [show updR (updR (fun _ => (0 : Int)) 0 7) 1 0 0 = 7 from rfl]
  have hn7 : normF [clRow 7] = [clRow 7] := normF_one ((clRow_good (n := 7) ⟨by decide, by decide⟩) _ (by simp)).1
  simp only [hn7] at hf
  obtain ⟨A4, c4, rfl, hn4, hc4⟩ := hf.slice
  have hb4 : Below w3.heap.size w3 w4 := Only.below ho4 (fun _ _ h => h)
  have hbt := HB3.out.trans (hb4.mono HB3.out.size)
  have hbr := one_new w4 (.cells #[.int .i64 7, .int .i64 2, .slice A4 1 c4, .int .i64 0] 36)
  have kr := heap_alloc_new w4 (.cells #[.int .i64 7, .int .i64 2, .slice A4 1 c4, .int .i64 0] 36)
  have hbc := one_new (w4.alloc (.cells #[.int .i64 7, .int .i64 2, .slice A4 1 c4, .int .i64 0] 36)) (.cells #[.bool false, .int .i64 (-1), .string ⟨#[55]⟩, .int .i64 0, .int .i64 0] 62)
  have kc := heap_alloc_new (w4.alloc (.cells #[.int .i64 7, .int .i64 2, .slice A4 1 c4, .int .i64 0] 36)) (.cells #[.bool false, .int .i64 (-1), .string ⟨#[55]⟩, .int .i64 0, .int .i64 0] 62)
  have H4 := Lib.hid (And.intro hf (And.intro hbt (And.intro hbr (And.intro kr (And.intro hbc kc)))))
  simp only [List.length_cons, List.length_nil, Nat.zero_add]
  clear hf hbt hbr kr hbc kc hn4 hc4 hn7 hb4 HB3 HB1 HRun hfl hfg ho4
  go_wp2_with fail
  have H5 := H4.out
  clear H4
  rw [show w4.heap.size + 1 = (w4.alloc (.cells #[.int .i64 7, .int .i64 2, .slice A4 1 c4, .int .i64 0] 36)).heap.size by simp]
  generalize w4.alloc (.cells #[.int .i64 7, .int .i64 2, .slice A4 1 c4, .int .i64 0] 36) = w5 at H5 ⊢
  obtain ⟨hf, hbt, hbr, kr, hbc, kc⟩ := H5
  generalize hX : w5.heap.size = X at kc ⊢
  generalize w5.alloc (.cells #[.bool false, .int .i64 (-1), .string ⟨#[55]⟩, .int .i64 0, .int .i64 0] 62) = w6 at hbc kc ⊢
  obtain ⟨RR, hRR⟩ : ∃ y, w4.heap.size = y := ⟨_, rfl⟩
  rw [hRR] at kr ⊢
  have hok : Ok (⟨false, -1, [55], 0, 0⟩ : Cl) := by rw [← clRow7]; exact ((clRow_good (n := 7) ⟨by decide, by decide⟩) _ (by simp)).1
  have hfit : (⟨false, -1, [55], 0, 0⟩ : Cl).fits := by rw [← clRow7]; exact ((clRow_good (n := 7) ⟨by decide, by decide⟩) _ (by simp)).2
  rw [clRow7] at hf
  have hb6 := (hbt.trans (hbr.mono hbt.size)).trans (hbc.mono (Nat.le_trans hbt.size hbr.size))
  have h46 := hbr.trans (hbc.mono hbr.size)
  have H6 := Lib.hid (And.intro (RdK.below hf h46) (And.intro hb6 ((Only.of_below hbc (fun _ => False)).heap kr (fun h => h))))
  have HN := Lib.hid (And.intro (new_ok w6 (fun _ => True) _ [⟨false, -1, [55], 0, 0⟩] (cl_of_block kc rfl trivial (by simp [maxLen])) (by simp) (fun c hc => by rw [List.mem_singleton] at hc; subst hc; exact hfit)) hok)
  clear hf hbt hbr kr hbc kc hX hRR hb6 h46 hok hfit
  refine HN.out.1.mono ?_
  intro e w7 hnp
  obtain ⟨v7, n7, rfl, hnv⟩ := hnp.named
  have hb7 := hnv.1
  have hno := hnv.norm (fun c hc => by rw [List.mem_singleton] at hc; subst hc; exact HN.out.2)
  rw [normF_one HN.out.2] at hno
  rcases hno with ⟨hlong, _⟩ | ⟨_, rfl, A5, c5, rfl, hO5⟩
  · simp at hlong
  have hrd : ClRd w7 (fun _ => True) (.slice A5 1 c5) [⟨false, -1, [55], 0, 0⟩] := RdK.of_own hO5 (cl_len _) (by decide) (fun _ _ => trivial)
  have hbz := one_new w7 (.cells #[.slice A5 1 c5] 31)
  have kz := heap_alloc_new w7 (.cells #[.slice A5 1 c5] 31)
  have h68 := hb7.trans (hbz.mono hb7.size)
  have H8 := Lib.hid (And.intro (RdK.below H6.out.1 h68) (And.intro (RdK.below hrd hbz) (And.intro (H6.out.2.1.trans (h68.mono H6.out.2.1.size)) (And.intro ((Only.of_below h68 (fun _ => False)).heap H6.out.2.2 (fun h => h)) kz))))
  clear hnp hnv hb7 hO5 hrd hbz kz h68 HN H6
  simp only [List.length_cons, List.length_nil, Nat.zero_add]
  go_upto_region 5 with fail
  have H9 := H8.out
  clear H8
  generalize hZ : w7.heap.size = Z at H9 ⊢
  generalize w7.alloc (.cells #[.slice A5 1 c5] 31) = w8 at H9 ⊢
  obtain ⟨hr1, hr2, hb8, kr, kz⟩ := H9
  have z0 := blk_cell kz
  obtain ⟨⟨x0, x1, x2, x3⟩, _⟩ := blk4z kr
  have HS := Lib.hid (And.intro (runSame_ok (w := w8) ⟨7, 2, [⟨false, -1, [55], 0, 0⟩], 0⟩ ⟨7, 2, [⟨false, -1, [55], 0, 0⟩], 0⟩ hr1 hr2 (by simp)) hb8)
  unfold resCells at HS
  clear hr1 hr2 hb8 kr kz hZ
  go_wp2_with fail
  refine HS.out.1.mono ?_
  rintro e w9 ⟨r, hr, rfl, hb9⟩
  obtain rfl : r = true := hr.2 (by simp)
  have HB := Lib.hid (HS.out.2.trans (hb9.mono HS.out.2.size))
  clear hb9 hr
  go_wp2_with fail
  go_ret
  exact ⟨rfl, HB.out⟩
end Go.Proofs.YtfaaigfgfljdkaaGreatDoor
