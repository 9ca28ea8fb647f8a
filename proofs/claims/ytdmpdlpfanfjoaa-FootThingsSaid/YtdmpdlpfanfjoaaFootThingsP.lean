/- Plain laws for FootThings: the things that are tried one by one; near. -/
import Derived.Test.YtdmpdlpfanfjoaaFootPartsP
namespace Go.Proofs.Ytdmpdlpfanfjoaa
open Go.RowKit

/-- Claims of values from -3 to 12 alone. -/
def NearP (l : List Cl) : Prop := ∀ c ∈ l, 0 ≤ c.col → -3 ≤ c.lo ∧ c.hi ≤ 12
/-- The claim of one thing. -/
def oneT (w : Bool) (t : Thing) : Cl := ⟨w, t.1, t.2.1, t.2.2, t.2.2⟩
/-- The thing that is tried at a place. -/
def thingAt (a b : List Cl) (i : Nat) : Thing :=
  if i < a.length then (-1, (a.getD i ⟨false, 0, [], 0, 0⟩).key, 0)
  else if i < a.length + b.length then (-1, (b.getD (i - a.length) ⟨false, 0, [], 0, 0⟩).key, 0)
  else (((i - a.length - b.length) / 16 : Nat), [], (((i - a.length - b.length) % 16 : Nat) : Int) - 3)
theorem thing_a {a b : List Cl} {i : Nat} {x : Cl} (h : a[i]? = some x) : thingAt a b i = (-1, x.key, 0) := by
  have hi := (List.getElem?_eq_some_iff.1 h).1
  unfold thingAt
  rw [if_pos hi, List.getD_eq_getElem?_getD, h]
  rfl
theorem thing_b {a b : List Cl} {i : Nat} {x : Cl} (h0 : a.length ≤ i) (h : b[i - a.length]? = some x) : thingAt a b i = (-1, x.key, 0) := by
  have hi := (List.getElem?_eq_some_iff.1 h).1
  unfold thingAt
  rw [if_neg (by omega), if_pos (by omega), List.getD_eq_getElem?_getD, h]
  rfl
theorem thing_c {a b : List Cl} {i : Nat} (h : a.length + b.length ≤ i) : thingAt a b i = ((((i : Int) - (a.length : Int) - (b.length : Int)).tdiv 16), [], (((i : Int) - (a.length : Int) - (b.length : Int)).tmod 16) - 3) := by
  unfold thingAt
  rw [if_neg (by omega), if_neg (by omega)]
  have e : (i : Int) - (a.length : Int) - (b.length : Int) = ((i - a.length - b.length : Nat) : Int) := by omega
  rw [e, Int.tdiv_eq_ediv_of_nonneg (by omega), Int.tmod_eq_emod_of_nonneg (by omega)]
  refine Prod.ext ?_ (Prod.ext rfl ?_)
  · show ((((i - a.length - b.length) / 16 : Nat)) : Int) = _
    omega
  · show ((((i - a.length - b.length) % 16 : Nat) : Int)) - 3 = ((i - a.length - b.length : Nat) : Int) % 16 - 3
    omega
theorem thing_all {a b : List Cl} (hg : Good a) (hn : NearP a) {t : Thing} (h : 1 ≤ lev a t) : ∃ j, j < a.length + b.length + 64 ∧ thingAt a b j = t := by
  obtain ⟨c, hc, hh⟩ := lev_pos.1 h
  obtain ⟨t1, t2, t3⟩ := t
  obtain ⟨e1, e2, e3, e4⟩ := hh
  simp only at e1 e2 e3 e4
  rcases (hg c hc).1.parts with ⟨p1, p2, p3, _⟩ | ⟨p1, p2, p3, _⟩
  · obtain ⟨i, hi, hx⟩ := List.getElem_of_mem hc
    have hx' : a[i]? = some c := by rw [List.getElem?_eq_getElem hi, hx]
    refine ⟨i, by omega, ?_⟩
    rw [thing_a hx']
    refine Prod.ext ?_ (Prod.ext e2 ?_)
    · show (-1 : Int) = t1
      omega
    · show (0 : Int) = t3
      omega
  · obtain ⟨q1, q2⟩ := hn c hc p1
    refine ⟨a.length + b.length + (t1.toNat * 16 + (t3 + 3).toNat), by omega, ?_⟩
    rw [thing_c (by omega)]
    have e : ((a.length + b.length + (t1.toNat * 16 + (t3 + 3).toNat) : Nat) : Int) - (a.length : Int) - (b.length : Int) = t1 * 16 + (t3 + 3) := by omega
    rw [e, Int.tdiv_eq_ediv_of_nonneg (by omega), Int.tmod_eq_emod_of_nonneg (by omega)]
    refine Prod.ext ?_ (Prod.ext (by show ([] : List UInt8) = t2; rw [← e2, p3]) ?_)
    · show (t1 * 16 + (t3 + 3)) / 16 = t1
      omega
    · show (t1 * 16 + (t3 + 3)) % 16 - 3 = t3
      omega
theorem thing_ok {a b : List Cl} (ha : Good a) (hb : Good b) {j : Nat} (hj : j < a.length + b.length + 64) {t : Thing} (ht : thingAt a b j = t) (hs : ¬ (t.1 < 0 ∧ t.2.1 = [])) (w : Bool) : Good [oneT w t] := by
  have key : ∀ {x : Cl} {l : List Cl}, Good l → x ∈ l → t = (-1, x.key, 0) → Good [oneT w t] := by
    intro x l hl hx e c hc
    simp at hc
    subst hc
    subst e
    have hk : x.key ≠ [] := fun e => hs ⟨show (-1 : Int) < 0 by decide, e⟩
    have h1 := (hl x hx).2.2.2.2
    rcases (hl x hx).1.parts with ⟨_, _, _, h2, h3⟩ | ⟨_, _, h2, _⟩
    · exact ⟨Ok.of (.inl ⟨rfl, rfl, rfl, h2, h3⟩), by unfold I64 oneT; simp, by unfold I64 oneT; simp, by unfold I64 oneT; simp, h1⟩
    · exact absurd h2 hk
  by_cases h1 : j < a.length
  · have hx : a[j]? = some a[j] := List.getElem?_eq_getElem h1
    exact key ha (List.getElem_mem h1) (by rw [← ht, thing_a hx])
  · by_cases h2 : j < a.length + b.length
    · have hx : b[j - a.length]? = some b[j - a.length] := List.getElem?_eq_getElem (by omega)
      exact key hb (List.getElem_mem _) (by rw [← ht, thing_b (by omega) hx])
    · have e := ht.symm
      unfold thingAt at e
      rw [if_neg h1, if_neg h2] at e
      subst e
      intro c hc
      simp at hc
      subst hc
      refine ⟨Ok.of (.inr ⟨?_, ?_, rfl, Int.le_refl _⟩), ?_, ?_, ?_, by simp [oneT]⟩
      · show (0 : Int) ≤ (((j - a.length - b.length) / 16 : Nat) : Int)
        omega
      · show (((j - a.length - b.length) / 16 : Nat) : Int) < 4
        omega
      · unfold I64; show _ ≤ (((j - a.length - b.length) / 16 : Nat) : Int) ∧ (((j - a.length - b.length) / 16 : Nat) : Int) ≤ _; omega
      · unfold I64; show _ ≤ (((j - a.length - b.length) % 16 : Nat) : Int) - 3 ∧ (((j - a.length - b.length) % 16 : Nat) : Int) - 3 ≤ _; omega
      · unfold I64; show _ ≤ (((j - a.length - b.length) % 16 : Nat) : Int) - 3 ∧ (((j - a.length - b.length) % 16 : Nat) : Int) - 3 ≤ _; omega
theorem lev_skip {f : List Cl} (hf : Good f) {t : Thing} (h : t.1 < 0 ∧ t.2.1 = []) : lev f t = 0 := by
  have := lev_bd f t
  have h1 : ¬ 1 ≤ lev f t := by
    intro hh
    obtain ⟨c, hc, x⟩ := lev_pos.1 hh
    have e1 := x.1
    have e2 := x.2.1
    rw [h.2] at e2
    rcases (hf c hc).1.parts with ⟨_, _, _, h2, _⟩ | ⟨h2, _⟩
    · rw [e2] at h2; simp at h2
    · omega
  omega
theorem within_T {f : List Cl} {t : Thing} (w : Bool) : WithinP [oneT w t] f ↔ (if w = true then 2 else 1) ≤ lev f t := by
  unfold WithinP
  constructor
  · intro h
    have := covP_lev.1 (h (oneT w t) (by simp)) t.2.2 (Int.le_refl _) (Int.le_refl _)
    exact this
  · intro h c hc
    simp at hc
    subst hc
    refine covP_lev.2 fun n h1 h2 => ?_
    have e : n = t.2.2 := Int.le_antisymm h2 h1
    subst e
    exact h
/-- Whether all things up to a place are within. -/
def AllLe (f g a b : List Cl) (m : Nat) : Prop := ∀ j, j < m → lev f (thingAt a b j) ≤ lev g (thingAt a b j)
def CfT (f g : List Cl) (t : Thing) : Prop := (lev f t = 2 ∧ 1 ≤ lev g t) ∨ (1 ≤ lev f t ∧ lev g t = 2)
/-- Whether two conflict at one of the things up to a place. -/
def AnyCf (f g a b : List Cl) (m : Nat) : Prop := ∃ j, j < m ∧ CfT f g (thingAt a b j)
theorem allLe_zero (f g a b : List Cl) : AllLe f g a b 0 := fun j hj => by omega
theorem anyCf_zero (f g a b : List Cl) : ¬ AnyCf f g a b 0 := fun ⟨j, hj, _⟩ => by omega
theorem allLe_succ {f g a b : List Cl} {m : Nat} : AllLe f g a b (m + 1) ↔ AllLe f g a b m ∧ lev f (thingAt a b m) ≤ lev g (thingAt a b m) := by
  constructor
  · intro h
    exact ⟨fun j hj => h j (by omega), h m (by omega)⟩
  · intro ⟨h1, h2⟩ j hj
    by_cases e : j = m
    · subst e; exact h2
    · exact h1 j (by omega)
theorem anyCf_succ {f g a b : List Cl} {m : Nat} : AnyCf f g a b (m + 1) ↔ AnyCf f g a b m ∨ CfT f g (thingAt a b m) := by
  constructor
  · rintro ⟨j, hj, h⟩
    by_cases e : j = m
    · subst e; exact .inr h
    · exact .inl ⟨j, by omega, h⟩
  · rintro (⟨j, hj, h⟩ | h)
    · exact ⟨j, by omega, h⟩
    · exact ⟨m, by omega, h⟩
/-- What is told of a thing: whether it is read, and whether it is written, in either one. -/
def TellsT (f g : List Cl) (t : Thing) (rf wf rg wg : Bool) : Prop := Tells rf (1 ≤ lev f t) ∧ Tells wf (2 ≤ lev f t) ∧ Tells rg (1 ≤ lev g t) ∧ Tells wg (2 ≤ lev g t)
theorem tellsT_is (f g : List Cl) (t : Thing) : ∃ rf wf rg wg, TellsT f g t rf wf rg wg := by
  obtain ⟨rf, h1⟩ := bool_of (1 ≤ lev f t)
  obtain ⟨wf, h2⟩ := bool_of (2 ≤ lev f t)
  obtain ⟨rg, h3⟩ := bool_of (1 ≤ lev g t)
  obtain ⟨wg, h4⟩ := bool_of (2 ≤ lev g t)
  exact ⟨rf, wf, rg, wg, h1, h2, h3, h4⟩
theorem TellsT.le {f g : List Cl} {t : Thing} {rf wf rg wg : Bool} (h : TellsT f g t rf wf rg wg) : Tells ((!rf || rg) && (!wf || wg)) (lev f t ≤ lev g t) := by
  obtain ⟨h1, h2, h3, h4⟩ := h
  have b1 := lev_bd f t
  have b2 := lev_bd g t
  unfold Tells at *
  cases rf <;> cases wf <;> cases rg <;> cases wg <;> simp at * <;> omega
theorem TellsT.cf {f g : List Cl} {t : Thing} {rf wf rg wg : Bool} (h : TellsT f g t rf wf rg wg) : Tells ((wf && rg) || (rf && wg)) (CfT f g t) := by
  obtain ⟨h1, h2, h3, h4⟩ := h
  have b1 := lev_bd f t
  have b2 := lev_bd g t
  unfold Tells CfT at *
  cases rf <;> cases wf <;> cases rg <;> cases wg <;> simp at * <;> omega
theorem TellsT.rw {f g : List Cl} {t : Thing} {wf rg wg : Bool} (h : TellsT f g t false wf rg wg) : wf = false := by
  obtain ⟨h1, h2, _, _⟩ := h
  cases wf
  · rfl
  · exact absurd (Int.le_trans (by decide) h2.pos) h1.neg
theorem TellsT.rwg {f g : List Cl} {t : Thing} {rf wf wg : Bool} (h : TellsT f g t rf wf false wg) : wg = false := by
  obtain ⟨_, _, h1, h2⟩ := h
  cases wg
  · rfl
  · exact absurd (Int.le_trans (by decide) h2.pos) h1.neg
theorem Tells.and {a b : Bool} {p q : Prop} (h : Tells a p) (k : Tells b q) : Tells (a && b) (p ∧ q) := by
  unfold Tells at *
  cases a <;> cases b <;> simp_all
theorem Tells.or {a b : Bool} {p q : Prop} (h : Tells a p) (k : Tells b q) : Tells (a || b) (p ∨ q) := by
  unfold Tells at *
  cases a <;> cases b <;> simp_all
theorem step_le {f g a b : List Cl} {m : Nat} {t : Thing} {x rf wf rg wg : Bool} (ht : thingAt a b m = t) (hx : Tells x (AllLe f g a b m)) (h : TellsT f g t rf wf rg wg) : Tells (x && ((!rf || rg) && (!wf || wg))) (AllLe f g a b (m + 1)) := by
  subst ht
  exact (hx.and h.le).congr allLe_succ.symm
theorem step_cf {f g a b : List Cl} {m : Nat} {t : Thing} {y rf wf rg wg : Bool} (ht : thingAt a b m = t) (hy : Tells y (AnyCf f g a b m)) (h : TellsT f g t rf wf rg wg) : Tells (y || ((wf && rg) || (rf && wg))) (AnyCf f g a b (m + 1)) := by
  subst ht
  exact (hy.or h.cf).congr anyCf_succ.symm
theorem skip_le {f g a b : List Cl} (hf : Good f) (hg : Good g) {m : Nat} {t : Thing} {x : Bool} (ht : thingAt a b m = t) (hs : t.1 < 0 ∧ t.2.1 = []) (hx : Tells x (AllLe f g a b m)) : Tells x (AllLe f g a b (m + 1)) := by
  subst ht
  refine hx.congr ?_
  rw [allLe_succ, lev_skip hf hs, lev_skip hg hs]
  simp
theorem skip_cf {f g a b : List Cl} (hf : Good f) {m : Nat} {t : Thing} {y : Bool} (ht : thingAt a b m = t) (hs : t.1 < 0 ∧ t.2.1 = []) (hy : Tells y (AnyCf f g a b m)) : Tells y (AnyCf f g a b (m + 1)) := by
  subst ht
  refine hy.congr ?_
  rw [anyCf_succ, CfT, lev_skip hf hs]
  simp
theorem all_within {a b f g : List Cl} (hf : IsForm a f) (ha : Good a) (hn : NearP a) : AllLe f g a b (a.length + b.length + 64) ↔ WithinP f g := by
  rw [within_lev]
  constructor
  · intro h t
    by_cases h1 : 1 ≤ lev f t
    · rw [hf.2] at h1
      obtain ⟨j, hj, e⟩ := thing_all (b := b) ha hn h1
      have := h j hj
      rw [e] at this
      exact this
    · have := lev_bd g t
      omega
  · intro h j _
    exact h _
theorem any_confl {a b f g : List Cl} (hf : IsForm a f) (ha : Good a) (hn : NearP a) (gf : Good f) (gg : Good g) : AnyCf f g a b (a.length + b.length + 64) ↔ ConflP f g := by
  rw [confl_lev gf gg]
  constructor
  · rintro ⟨j, _, h⟩
    refine ⟨thingAt a b j, ?_⟩
    rcases h with ⟨h1, h2⟩ | ⟨h1, h2⟩
    · exact ⟨by omega, h2, .inl h1⟩
    · exact ⟨h1, by omega, .inr h2⟩
  · rintro ⟨t, h1, h2, h3⟩
    have h1' := h1
    rw [hf.2] at h1'
    obtain ⟨j, hj, e⟩ := thing_all (b := b) ha hn h1'
    refine ⟨j, hj, ?_⟩
    rw [e]
    rcases h3 with h3 | h3
    · exact .inl ⟨h3, h2⟩
    · exact .inr ⟨h1, h3⟩

/-- What was there at a world is there still. -/
def Since (wk w : World) : Prop := Below wk.heap.size wk w
theorem Since.below {wk w w' : World} (h : Since wk w) (hb : Below w.heap.size w w') : Since wk w' := Below.trans h (hb.mono (Below.size h))
theorem Since.set {wk w : World} (h : Since wk w) {B : Nat} (hB : wk.heap.size ≤ B) (j : Nat) (u : Value) : Since wk (w.setCell ⟨B, j, none⟩ u) := Below.setCell h (p := ⟨B, j, none⟩) hB u
theorem Ft.set {w : World} {R B : Nat} {A : Option Addr} {l : List Cl} {c : Nat} (h : Ft w R A l c) (hR : R ≠ B) (hr : ClRd w (fun k => k ≠ B) (.slice A l.length c) l) (j : Nat) (u : Value) : Ft (w.setCell ⟨B, j, none⟩ u) R A l c :=
  ⟨(Only.set1 w B j u).cell h.1 hR, Nat.lt_of_lt_of_le h.2.1 (Only.set1 w B j u).size, RdK.mono (RdK.only hr (Only.set1 w B j u) (fun _ e => e)) (fun _ _ => trivial)⟩

set_option maxRecDepth 100000 in
theorem near_ok (w : World) (F : Nat → Prop) (v : Value) (l : List Cl) (h : ClRd w F v l) : Calls Try.prog 28 #[v] w (BoolP (NearP l) w) := by
  obtain ⟨A, c, rfl, hnc, hcm⟩ := h.slice
  have hlm : l.length ≤ 9223372036854775807 := by unfold maxLen at hcm; omega
  have H := Lib.hid h
  clear h
  go_enter Try.func28, Try.ntmps28
  go_wp2_with fail
  go_loop [3] (fun i => ∃ k : Nat, k ≤ l.length ∧ i = .int .i64 (k : Int) ∧ NearP (l.take k)) (fun i => l.length - (intOf i).toNat)
  case atStart => exact ⟨0, Nat.zero_le _, rfl, fun c hc => by simp at hc⟩
  case round =>
    obtain ⟨k, hk, rfl, hal⟩ := hrel
    by_cases hlt : k < l.length
    · obtain ⟨x, hx⟩ : ∃ x, l[k]? = some x := ⟨_, List.getElem?_eq_getElem hlt⟩
      obtain ⟨b, o, rfl, hFb, c0, c1, c2, c3, c4⟩ := H.out.at_ hx
      have HX := Lib.hid (And.intro hx hal)
      clear hx hal c0 c2
      have hno : ¬ (0 ≤ x.col → -3 ≤ x.lo ∧ x.hi ≤ 12) → ¬ NearP l := fun hh hn => hh (hn x (List.mem_of_getElem? HX.out.1))
      have hyes : (0 ≤ x.col → -3 ≤ x.lo ∧ x.hi ≤ 12) → NearP (l.take (k + 1)) := by
        intro hh
        rw [take_snoc HX.out.1]
        intro c hc
        rcases List.mem_append.1 hc with hc | hc
        · exact HX.out.2 c hc
        · simp at hc; subst hc; exact hh
      have HY := Lib.hid (And.intro hno hyes)
      clear hno hyes
      by_cases h1 : 0 ≤ x.col
      · by_cases h2 : x.lo < -3
        · go_wp2_with fail
          go_ret
          exact BoolP.no (HY.out.1 (fun hh => by have := hh h1; omega)) (Below.refl _ _)
        · by_cases h3 : 12 < x.hi
          · go_wp2_with fail
            go_ret
            exact BoolP.no (HY.out.1 (fun hh => by have := hh h1; omega)) (Below.refl _ _)
          · go_wp2_with fail
            go_round
            case rel => exact ⟨k + 1, by omega, by go_num, HY.out.2 (fun _ => by omega)⟩
            case measure => simp [intOf]; omega
      · go_wp2_with fail
        go_round
        case rel => exact ⟨k + 1, by omega, by go_num, HY.out.2 (fun _ => by omega)⟩
        case measure => simp [intOf]; omega
    · have hkl : k = l.length := by omega
      subst hkl
      rw [List.take_length] at hal
      have HX := Lib.hid hal
      clear hal
      go_wp2_with fail
      go_ret
      exact BoolP.yes HX.out (Below.refl _ _)

end Go.Proofs.Ytdmpdlpfanfjoaa
