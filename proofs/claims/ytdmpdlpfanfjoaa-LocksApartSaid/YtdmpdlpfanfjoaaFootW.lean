/- The chapter's example; Few. -/
import Derived.Test.YtdmpdlpfanfjoaaFootV
namespace Go.Proofs.Ytdmpdlpfanfjoaa
open Go.RowKit

def l5 : List Cl := [⟨false, -1, [97], 0, 0⟩, ⟨true, -1, [97], 0, 0⟩, ⟨false, 0, [], 1, 3⟩, ⟨false, 0, [], 4, 9⟩, ⟨true, 0, [], 5, 6⟩]
def ex5 : List Cl := [⟨true, -1, [97], 0, 0⟩, ⟨true, 0, [], 5, 6⟩, ⟨false, 0, [], 1, 4⟩, ⟨false, 0, [], 7, 9⟩]
theorem ok5 : ∀ c ∈ l5, Ok c := by
  intro c hc
  simp [l5] at hc
  rcases hc with rfl | rfl | rfl | rfl | rfl <;> exact Ok.of (by simp)
theorem inS1 {x : Int × Int} {n : Int} : inS [x] n ↔ x.1 ≤ n ∧ n ≤ x.2 := by rw [inS_cons]; exact ⟨fun h => h.resolve_right (inS_nil n), .inl⟩
theorem normS_nil : NormS [] := ⟨fun x hx => by simp at hx, List.Pairwise.nil⟩
theorem normS_one {x : Int × Int} (h : x.1 ≤ x.2) : NormS [x] := NormS.cons h normS_nil (fun y hy => by simp at hy)
theorem form5 : IsForm l5 ex5 := by
  have e : ex5 = formOf [(true, [97])] (fun i => if i = 0 then [(5, 6)] else []) (fun i => if i = 0 then [(1, 4), (7, 9)] else []) := rfl
  rw [e]
  refine form_is ok5 ?_ ?_ ?_ ?_ ?_
  · simp
  · intro k
    rw [lev_pos]
    constructor
    · rintro ⟨b, hb⟩
      simp at hb
      obtain ⟨rfl, rfl⟩ := hb
      exact ⟨⟨true, -1, [97], 0, 0⟩, by simp [l5], by simp [Cl.has]⟩
    · rintro ⟨c, hc, h⟩
      simp [l5] at hc
      rcases hc with rfl | rfl | rfl | rfl | rfl <;> simp [Cl.has] at h <;> exact ⟨true, by simp [h]⟩
  · intro k
    rw [lev_two]
    constructor
    · intro hb
      simp at hb
      subst hb
      exact ⟨⟨true, -1, [97], 0, 0⟩, by simp [l5], by simp [Cl.has], rfl⟩
    · rintro ⟨c, hc, h, hw⟩
      simp [l5] at hc
      rcases hc with rfl | rfl | rfl | rfl | rfl <;> simp [Cl.has] at h hw <;> simp [h]
  · intro i h0 h4
    have : i = 0 ∨ i = 1 ∨ i = 2 ∨ i = 3 := by omega
    rcases this with rfl | rfl | rfl | rfl
    · exact ⟨normS_one (by decide), fun n => Iff.rfl⟩
    · exact ⟨normS_nil, fun n => Iff.rfl⟩
    · exact ⟨normS_nil, fun n => Iff.rfl⟩
    · exact ⟨normS_nil, fun n => Iff.rfl⟩
  · intro i h0 h4
    have : i = 0 ∨ i = 1 ∨ i = 2 ∨ i = 3 := by omega
    rcases this with rfl | rfl | rfl | rfl
    · refine ⟨NormS.cons (by decide) (normS_one (by decide)) (fun y hy => by simp at hy; subst hy; decide), fun n => ?_⟩
      show inS [(1, 4), (7, 9)] n ↔ inS [(1, 3), (4, 9)] n ∧ ¬ inS [(5, 6)] n
      rw [inS_cons, inS1, inS_cons, inS1, inS1]
      simp only
      omega
    · exact ⟨normS_nil, fun n => ⟨fun h => absurd h (inS_nil n), fun h => absurd h.1 (inS_nil n)⟩⟩
    · exact ⟨normS_nil, fun n => ⟨fun h => absurd h (inS_nil n), fun h => absurd h.1 (inS_nil n)⟩⟩
    · exact ⟨normS_nil, fun n => ⟨fun h => absurd h (inS_nil n), fun h => absurd h.1 (inS_nil n)⟩⟩

/-- What New hands back for claims that may be, whose form is known. -/
theorem NewV.known {l out : List Cl} {w w' : World} {v : Value} {n : Int} (h : NewV l w v n w') (ho : ∀ c ∈ l, Ok c) (hf : IsForm l out) (hl : out.length ≤ 64) :
    n = 0 ∧ ∃ A c, v = .slice A out.length c ∧ w'.ownsRow w.heap.size 28 5 (.slice A out.length c) out.length (out.map Cl.cells).flatten := by
  rcases h.2 with ⟨h1, _⟩ | ⟨_, out', h2, h3⟩
  · exact absurd (errOf_ok ho) h1
  · have e : out' = out := form_unique h2.1 hf.1 (fun t => (h2.2 t).trans (hf.2 t).symm)
    subst e
    rcases h3 with ⟨h3, _⟩ | ⟨_, rfl, h4⟩
    · omega
    · exact ⟨rfl, h4⟩

theorem fits5 : ∀ c ∈ l5, c.fits := by
  intro c hc
  simp [l5] at hc
  rcases hc with rfl | rfl | rfl | rfl | rfl <;> simp [Cl.fits, I64, maxLen]

set_option maxRecDepth 100000 in
set_option maxHeartbeats 1000000 in
theorem awake_ok (w : World) : Calls Try.prog 18 #[] w fun e w' => e = .returned (.bool true) ∧ Below w.heap.size w w' := by
  go_enter Try.func18, Try.ntmps18
  go_wp2_with fail
  refine (new_ok _ (fun _ => True) _ l5 (cl_of_block (heap_alloc_new _ _) rfl trivial (by simp [l5, maxLen])) (by decide) fits5).mono ?_
  intro e w1 hnp
  obtain ⟨v1, n1, rfl, hnv⟩ := hnp.named
  obtain ⟨rfl, A1, c1, rfl, hO1⟩ := hnv.known ok5 form5 (by decide)
  have hb1 : Below w.heap.size w w1 := ((Below.refl _ _).alloc (Nat.le_refl _) _).trans (hnv.1.mono (by simp))
  have H1 := Lib.hid (And.intro (fresh_rd hO1) hb1)
  clear hO1 hb1 hnv hnp
  go_wp2_with fail
  refine (claims_ok _ (fun _ => True) _ ex5 (RdK.below H1.out.1 ((Below.refl _ _).alloc (Nat.le_refl _) _)) (by decide)).mono ?_
  rintro e w2 ⟨A2, c2, rfl, hO2, hb2⟩
  have hb2' : Below w.heap.size w w2 := (H1.out.2.alloc H1.out.2.size _).trans (hb2.mono (by have := H1.out.2.size; simp; omega))
  have H2 := Lib.hid (And.intro (fresh_rd hO2) hb2')
  clear hO2 hb2 hb2'
  go_wp2_with fail
  refine (lawClaims_ok _ (fun _ => True) (fun _ => True) _ _ ex5 ex5 (RdK.below H2.out.1 ((Below.refl _ _).alloc (Nat.le_refl _) _)) (cl_of_block (heap_alloc_new _ _) rfl trivial (by simp [ex5, maxLen])) (by decide)).mono ?_
  rintro e w3 ⟨r, hr, rfl, hb3⟩
  obtain rfl : r = true := hr.2 rfl
  have hb3' : Below w.heap.size w w3 := (H2.out.2.alloc H2.out.2.size _).trans (hb3.mono (by have := H2.out.2.size; simp; omega))
  have H3 := Lib.hid hb3'
  clear hb3 hb3' hr
  go_wp2_with fail
  go_ret
  exact ⟨rfl, H3.out⟩

def FewP (l : List Cl) : Prop := l.length ≤ 100 ∧ ∀ c ∈ l, c.key.length ≤ 100

set_option maxRecDepth 100000 in
theorem few_ok (w : World) (F : Nat → Prop) (v : Value) (l : List Cl) (h : ClRd w F v l) (hfit : ∀ c ∈ l, c.fits) : Calls Try.prog 17 #[v] w (BoolP (FewP l) w) := by
  obtain ⟨A, c, rfl, hnc, hcm⟩ := h.slice
  have hlm : l.length ≤ 9223372036854775807 := by unfold maxLen at hcm; omega
  have H := Lib.hid h
  clear h
  go_enter Try.func17, Try.ntmps17
  go_wp2_with fail
  go_loop [3] (fun i => ∃ k : Nat, k ≤ l.length ∧ i = .int .i64 (k : Int) ∧ ∀ c ∈ l.take k, c.key.length ≤ 100) (fun i => l.length - (intOf i).toNat)
  case atStart => exact ⟨0, Nat.zero_le _, rfl, by simp⟩
  case round =>
    obtain ⟨k, hk, rfl, hal⟩ := hrel
    by_cases hlt : k < l.length
    · obtain ⟨x, hx⟩ : ∃ x, l[k]? = some x := ⟨_, List.getElem?_eq_getElem hlt⟩
      obtain ⟨b, o, rfl, hFb, c0, c1, c2, c3, c4⟩ := H.out.at_ hx
      have hxk := (hfit x (List.mem_of_getElem? hx)).2.2.2
      unfold maxLen at hxk
      have HX := Lib.hid (And.intro hx hal)
      clear hx hal c0 c1 c3 c4
      by_cases hkl : x.key.length ≤ 100
      · go_wp2_with fail
        go_round
        case rel =>
          refine ⟨k + 1, by omega, by go_num, ?_⟩
          rw [take_snoc HX.out.1]
          intro c hc
          rcases List.mem_append.1 hc with hc | hc
          · exact HX.out.2 c hc
          · simp at hc; subst hc; exact hkl
        case measure => simp [intOf]; omega
      · go_wp2_with fail
        go_ret
        exact BoolP.no (fun hh => hkl (hh.2 x (List.mem_of_getElem? HX.out.1))) (Below.refl _ _)
    · have hkl : k = l.length := by omega
      subst hkl
      rw [List.take_length] at hal
      have HX := Lib.hid hal
      clear hal
      go_wp2_with fail
      go_ret
      refine ⟨decide ((l.length : Int) ≤ 100), ?_, rfl, Below.refl _ _⟩
      rw [decide_eq_true_iff]
      exact ⟨fun h => ⟨by omega, HX.out⟩, fun h => by have := h.1; omega⟩

end Go.Proofs.Ytdmpdlpfanfjoaa
