/- The machine's ops: set, has. -/
import Derived.Test.YtfaaigfgfljdkaaGreatDoorRunD
import Derived.Deep.RegionWith
import Derived.Deep.RegionHeld3
namespace Go.Proofs.YtfaaigfgfljdkaaGreatDoor
set_option maxRecDepth 100000
open Go.RowKit

section
variable {R : Type} {c : RC} {K : R → World → Prop} {get : R → List UInt8 → Option Rw} {w : World} {s : PS R}
theorem regFit {f : Nat → Int} (h : ∀ i, RegOk (f i)) (a : Nat) {v : Int} (hv : RegOk v) : ∀ i, RegOk (updR f a v i) := fun i => by
  unfold updR
  split
  · exact hv
  · exact h i
def setPs (x : POp) (s : PS R) : PS R × Int := ({ s with reg := updR s.reg x.a.toNat x.c }, 0)
theorem mset_ok (hc : c.Fit) (hK : KOk c.lo K) (h : MI c K w s) (x : POp) (a : Nat) (ha : a < 8) (hxa : x.a = (a : Int)) (hxc : -1099511627776 ≤ x.c ∧ x.c ≤ 1099511627776) :
    Calls Tryz.prog 169 #[.pointer (some ⟨c.M, 0, none⟩), x.val] w (ActR c K (setPs x s) w) := by
  have h0 := h
  obtain ⟨f, h1, _, _, _, _, _, h7⟩ := h
  refine (set_ok w c.M (c.ms s f) h1 x a ha hxa).mono ?_
  rintro e w' ⟨rfl, hm, ho⟩
  refine ⟨rfl, h0.turn hc hK ho (fun f'' hf'' => ?_) rfl rfl ⟨regFit h7.1 _ ⟨by omega, by omega⟩, h7.2⟩, ho.toS hc⟩
  obtain rfl : f'' = f := by
    have := hf''.foot
    rw [h1.foot] at this
    simp only [RC.ms, Option.some.injEq] at this
    exact this.symm
  unfold setPs
  rw [hxa]
  exact hm
theorem bit_yes (w : World) : Calls Tryz.prog 242 #[.bool true] w fun e w' => e = .returned (.int .i64 1) ∧ w = w' := by
  go_enter Tryz.func242, Tryz.ntmps242
  go_wp2_with fail
  go_ret
  exact ⟨rfl, rfl⟩
theorem bit_no (w : World) : Calls Tryz.prog 242 #[.bool false] w fun e w' => e = .returned (.int .i64 0) ∧ w = w' := by
  go_enter Tryz.func242, Tryz.ntmps242
  go_wp2_with fail
  go_ret
  exact ⟨rfl, rfl⟩
/-- What has does. -/
def hasPs (ok : Cl → Bool) (get : R → List UInt8 → Option Rw) (x : POp) (s : PS R) : PS R × Int :=
  let p := rowP ok get x.b.toNat s
  if p.2.2 = 0 then ({ p.1 with reg := updR p.1.reg x.a.toNat (if p.2.1.isSome then 1 else 0) }, 0) else (p.1, p.2.2)
theorem MI.setReg {a : Nat} (hc : c.Fit) (hK : KOk c.lo K) (h : MI c K w s) (ha : a < 8) {v : Int} (hv : RegOk v) : MI c K (w.setCell ⟨c.M, 18 + a, none⟩ (.int .i64 v)) { s with reg := updR s.reg a v } := by
  have h0 := h
  obtain ⟨f, h1, _, _, _, _, _, h7⟩ := h
  exact h0.turn hc hK (only1 w c.M (18 + a) _) (fun f'' hf'' => hf''.setReg ha v) rfl rfl ⟨regFit h7.1 _ hv, h7.2⟩
theorem MI.drew (h : MI c K w s) (hc : c.Fit) (hK : KOk c.lo K) : MI c K w.drew s := h.below hc hK ((Below.refl _ _).drew)
set_option maxRecDepth 100000 in
set_option maxHeartbeats 2000000 in
theorem mhas_ok (hc : c.Fit) (hK : KOk c.lo K) (hT : KTab K) (hG : GetOk c.b K get) (h : MI c K w s) (x : POp) (a b : Nat) (ha : a < 8) (hb : b < 8) (hxa : x.a = (a : Int)) (hxb : x.b = (b : Int)) :
    Calls Tryz.prog 175 #[.pointer (some ⟨c.M, 0, none⟩), x.val] w (ActR c K (hasPs c.ok get x s) w) := by
  obtain ⟨dk, xa, xb, xc, xn⟩ := x
  simp only at hxa hxb
  subst hxa hxb
  unfold POp.val
  simp only
  have hb0 := new_box w (.cells #[.int .i64 dk, .int .i64 (a : Int), .int .i64 (b : Int), .int .i64 xc, .int .i64 xn] 160)
  have k0 := heap_alloc_new w (.cells #[.int .i64 dk, .int .i64 (a : Int), .int .i64 (b : Int), .int .i64 xc, .int .i64 xn] 160)
  have h1 := h.below hc hK hb0
  have HC := Lib.hid (And.intro hc (And.intro hK (And.intro hT hG)))
  have hSb : ∀ k, c.S k → k < w.heap.size := by obtain ⟨_, _, _, _, _, _, h6, _⟩ := h; exact h6
  have i1 : (0 : Int) ≤ (a : Int) := by omega
  have i2 : (a : Int) < 8 := by omega
  go_enter Tryz.func175, Tryz.ntmps175
  go_upto_region 1 with fail
  generalize w.alloc (.cells #[.int .i64 dk, .int .i64 (a : Int), .int .i64 (b : Int), .int .i64 xc, .int .i64 xn] 160) = w1 at hb0 k0 h1 ⊢
  obtain ⟨O, hO⟩ : ∃ x, w.heap.size = x := ⟨_, rfl⟩
  rw [hO] at k0 ⊢
  have hOn : ¬ c.S O := fun hs => by have := hSb O hs; omega
  have o2 : w1.cell? ⟨O, 2, none⟩ = some (.int .i64 (b : Int)) := by simp [World.cell?, k0]
  have HR := Lib.hid (row_ok hc hK hT hG h1 b hb)
  have H1 := Lib.hid (And.intro hb0 (And.intro k0 hOn))
  obtain ⟨s', r, n, hp⟩ : ∃ s' r n, rowP c.ok get b s = (s', r, n) := ⟨_, _, _, rfl⟩
  rw [hp] at HR
  have HP := Lib.hid hp
  clear h h1 hb0 k0 hO hOn hSb hp hc hK hT hG
  go_wp2_with fail
  refine HR.out.mono ?_
  rintro e w2 ⟨rfl, hI2, ho2⟩
  have k2 := ho2.heap H1.out.2.1 (fun h => H1.out.2.2 (HC.out.1.sub _ h))
  obtain ⟨⟨ra, rb, rc, rd⟩, hrr⟩ : ∃ q, r.getD .zero = q := ⟨_, rfl⟩
  simp only [hrr, Rw.val]
  have HI := Lib.hid (And.intro hI2 (And.intro ho2 k2))
  clear hI2 ho2 k2 HR
  go_upto_region 2 with fail
  have hbz := new_box w2 (.cells #[.int .i64 ra, .int .i64 rb, .int .i64 rc, .int .i64 rd] 44)
  have HZ := Lib.hid hbz
  clear hbz
  generalize w2.alloc (.cells #[.int .i64 ra, .int .i64 rb, .int .i64 rc, .int .i64 rd] 44) = w3 at HZ ⊢
  have h3 := HI.out.1.below HC.out.1 HC.out.2.1 HZ.out
  have k3 := (Only.of_below HZ.out (fun _ => False)).heap HI.out.2.2 (fun h => h)
  have hO3 : Only c.W w w3 := ((Only.of_below H1.out.1 c.W).trans HI.out.2.1 (fun _ _ h => h)).trans (Only.of_below HZ.out c.W) (fun _ _ h => h)
  by_cases hn : n = 0
  · subst hn
    have H3 := Lib.hid (And.intro h3 hO3)
    obtain ⟨f3, hm3, _⟩ := h3
    have m3 := hm3.reg ha
    have mf := hm3.free (18 + a)
    have o1 : w3.cell? ⟨O, 1, none⟩ = some (.int .i64 (a : Int)) := by simp [World.cell?, k3]
    have hOM : ¬ O = c.M := fun e => H1.out.2.2 (by rw [e]; exact HC.out.1.own)
    have o1' : ∀ v, (w3.setCell ⟨c.M, 18 + a, none⟩ v).cell? ⟨O, 1, none⟩ = some (.int .i64 (a : Int)) := fun v => (only1 w3 c.M (18 + a) v).cell o1 hOM
    clear hm3 k3 hO3
    cases hq : r.isSome with
    | true =>
      go_wp2_with fail
      go_region_held3 (fun W => W.cell? ⟨O, 1, none⟩ = some (.int .i64 (a : Int))) (first | exact o1 | exact o1' _ | go_keep) (first | (go_at_call 242; refine (bit_yes _).mono ?_; rintro e w' ⟨rfl, rfl⟩))
      go_wp2_with fail
      go_ret
      have HF := (H3.out.1.drew HC.out.1 HC.out.2.1).setReg HC.out.1 HC.out.2.1 ha (v := 1) ⟨by decide, by decide⟩
      refine ⟨?_, ?_, H3.out.2.trans ((onlyM w3 1 c.M (18 + a) _).toS HC.out.1) (fun _ _ h => h)⟩
      · unfold hasPs
        simp only [Int.toNat_natCast, HP.out, if_true]
        rfl
      · unfold hasPs
        simp only [Int.toNat_natCast, HP.out, if_true, hq]
        exact HF
    | false =>
      go_wp2_with fail
      go_region_held3 (fun W => W.cell? ⟨O, 1, none⟩ = some (.int .i64 (a : Int))) (first | exact o1 | exact o1' _ | go_keep) (first | (go_at_call 242; refine (bit_no _).mono ?_; rintro e w' ⟨rfl, rfl⟩))
      go_wp2_with fail
      go_ret
      have HF := (H3.out.1.drew HC.out.1 HC.out.2.1).setReg HC.out.1 HC.out.2.1 ha (v := 0) ⟨by decide, by decide⟩
      refine ⟨?_, ?_, H3.out.2.trans ((onlyM w3 1 c.M (18 + a) _).toS HC.out.1) (fun _ _ h => h)⟩
      · unfold hasPs
        simp only [Int.toNat_natCast, HP.out, if_true]
        rfl
      · unfold hasPs
        simp only [Int.toNat_natCast, HP.out, if_true, hq]
        exact HF
  · have hn2 : (n == 0) = false := by simpa using hn
    have HN := Lib.hid (And.intro hn (And.intro h3 hO3))
    clear hn h3 k3 hO3
    go_wp2_with fail
    go_ret
    refine ⟨?_, ?_, HN.out.2.2⟩
    · unfold hasPs
      simp only [Int.toNat_natCast, HP.out, if_neg HN.out.1]
      rfl
    · unfold hasPs
      simp only [Int.toNat_natCast, HP.out, if_neg HN.out.1]
      exact HN.out.2.1
end
end Go.Proofs.YtfaaigfgfljdkaaGreatDoor
