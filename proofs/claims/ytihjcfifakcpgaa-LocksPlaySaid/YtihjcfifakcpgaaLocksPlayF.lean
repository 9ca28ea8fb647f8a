/- LocksPlay's bounds on calls. -/
import Derived.Test.YtihjcfifakcpgaaLocksPlayO
namespace Go.Proofs.Ytihjcfifakcpgaa
open Go.ChangeShapes Go.WideShapes Go.ChangeAt Go.RowKit Go.Deep

/-- Calls are not too many. -/
def Few10 (l : List LOp) : Prop := (∀ o ∈ l, o.l.length ≤ 20 ∧ ∀ c ∈ o.l, c.key.length ≤ 100) ∧ l.length ≤ 60
theorem OpsRd.slice {w : World} {v : Value} {l : List LOp} (h : OpsRd w v l) : ∃ A c, v = .slice A l.length c ∧ l.length ≤ c ∧ c ≤ maxLen := by
  obtain ⟨⟨A', n', c', hv, hl, h1, h2, _⟩, _⟩ := h
  simp at hl
  exact ⟨A', c', by rw [hl]; exact hv, by omega, h2⟩
theorem OpsRd.at_ {w : World} {A : Option Addr} {n c : Nat} {l : List LOp} (h : OpsRd w (.slice A n c) l) {k : Nat} {x : LOp} (hk : l[k]? = some x) :
    ∃ b o A' c', A = some ⟨b, o, none⟩ ∧ x.v = .slice A' x.l.length c' ∧ w.cell? ⟨b, o + k * 3, none⟩ = some (.int .i64 x.ask) ∧ w.cell? ⟨b, o + k * 3 + 1, none⟩ = some (.int .i64 x.id) ∧ w.cell? ⟨b, o + k * 3 + 2, none⟩ = some (.slice A' x.l.length c') ∧
      ClRd w (fun _ => True) (.slice A' x.l.length c') x.l ∧ (∀ c ∈ x.l, c.fits) ∧ I64 x.ask ∧ I64 x.id ∧ x.l.length ≤ 9223372036854775807 := by
  obtain ⟨⟨A', n', c', hv, hl, _, _, hx⟩, hok⟩ := h
  injection hv with h1 h2 h3
  subst h1 h2 h3
  have hlt := (List.getElem?_eq_some_iff.1 hk).1
  obtain ⟨b, o, rfl, hF, hc⟩ := hx (by simp at hl; omega)
  have hx' : (l.map LOp.cells)[k]? = some x.cells := by simp [hk]
  obtain ⟨k1, k2, k3, k4⟩ := hok x (List.mem_of_getElem? hk)
  obtain ⟨A2, c2, hv2, hnc2, hcm2⟩ := k3.slice
  refine ⟨b, o, A2, c2, rfl, hv2, hc k _ hx' 0 _ rfl, hc k _ hx' 1 _ rfl, ?_, ?_, k4, k1, k2, ?_⟩
  · rw [← hv2]; exact hc k _ hx' 2 _ rfl
  · rw [← hv2]; exact k3
  · unfold maxLen at hcm2; omega

set_option maxRecDepth 100000 in
set_option maxHeartbeats 1000000 in
theorem few10_ok (w : World) (v : Value) (l : List LOp) (h : OpsRd w v l) : Calls Try.prog 4 #[v] w (BoolP (Few10 l) w) := by
  obtain ⟨A, c, rfl, hnc, hcm⟩ := h.slice
  have hlm : l.length ≤ 9223372036854775807 := by unfold maxLen at hcm; omega
  have H := Lib.hid h
  clear h
  go_enter Try.func4, Try.ntmps4
  go_wp2_with fail
  go_loop [3] (fun i => ∃ k : Nat, k ≤ l.length ∧ i = .int .i64 (k : Int) ∧ ∀ o ∈ l.take k, o.l.length ≤ 20 ∧ ∀ c ∈ o.l, c.key.length ≤ 100) (fun i => l.length - (intOf i).toNat)
  case atStart => exact ⟨0, Nat.zero_le _, rfl, by simp⟩
  case round =>
    obtain ⟨k, hk, rfl, hal⟩ := hrel
    by_cases hlt : k < l.length
    · obtain ⟨x, hx⟩ : ∃ x, l[k]? = some x := ⟨_, List.getElem?_eq_getElem hlt⟩
      obtain ⟨b, o, A2, c2, rfl, _, _, _, cl, hrd, hfit, _, _, hlx⟩ := H.out.at_ hx
      have HX := Lib.hid (And.intro hx (And.intro hal (And.intro hrd hfit)))
      clear hx hal hrd hfit
      by_cases h20 : x.l.length ≤ 20
      · have hd : ((20 : Int) < (x.l.length : Int)) = False := by simp; omega
        go_wp2_with fail
        go_loop [4] (fun j => ∃ m : Nat, m ≤ x.l.length ∧ j = .int .i64 (m : Int) ∧ ∀ c ∈ x.l.take m, c.key.length ≤ 100) (fun j => x.l.length - (intOf j).toNat)
        case atStart => exact ⟨0, Nat.zero_le _, rfl, by simp⟩
        case round =>
          obtain ⟨m, hm, rfl, hal2⟩ := hrel
          by_cases hlt2 : m < x.l.length
          · obtain ⟨y, hy⟩ : ∃ y, x.l[m]? = some y := ⟨_, List.getElem?_eq_getElem hlt2⟩
            obtain ⟨b2, o2, rfl, _, _, _, ck, _, _⟩ := HX.out.2.2.1.at_ hy
            have hyk := (HX.out.2.2.2 y (List.mem_of_getElem? hy)).2.2.2
            unfold maxLen at hyk
            have HY := Lib.hid (And.intro hy hal2)
            clear hy hal2
            by_cases hkl : y.key.length ≤ 100
            · go_wp2_with fail
              go_round
              case rel =>
                refine ⟨m + 1, by omega, by go_num, ?_⟩
                rw [take_snoc HY.out.1]
                intro c hc
                rcases List.mem_append.1 hc with hc | hc
                · exact HY.out.2 c hc
                · simp at hc; subst hc; exact hkl
              case measure => simp [intOf]; omega
            · go_wp2_with fail
              go_ret
              exact BoolP.no (fun hh => hkl ((hh.1 x (List.mem_of_getElem? HX.out.1)).2 y (List.mem_of_getElem? HY.out.1))) (Below.refl _ _)
          · obtain rfl : m = x.l.length := by omega
            rw [List.take_length] at hal2
            have HY := Lib.hid hal2
            clear hal2
            go_wp2_with fail
            go_round
            case rel =>
              refine ⟨k + 1, by omega, by go_num, ?_⟩
              rw [take_snoc HX.out.1]
              intro c hc
              rcases List.mem_append.1 hc with hc | hc
              · exact HX.out.2.1 c hc
              · simp at hc; subst hc; exact ⟨h20, HY.out⟩
            case measure => simp [intOf]; omega
      · go_wp2_with fail
        go_ret
        exact BoolP.no (fun hh => h20 (hh.1 x (List.mem_of_getElem? HX.out.1)).1) (Below.refl _ _)
    · have hkl : k = l.length := by omega
      subst hkl
      rw [List.take_length] at hal
      have HX := Lib.hid hal
      clear hal
      go_wp2_with fail
      go_ret
      refine ⟨decide ((l.length : Int) ≤ 60), ?_, rfl, Below.refl _ _⟩
      rw [decide_eq_true_iff]
      exact ⟨fun h => ⟨HX.out, by omega⟩, fun h => by have := h.2; omega⟩

end Go.Proofs.Ytihjcfifakcpgaa
