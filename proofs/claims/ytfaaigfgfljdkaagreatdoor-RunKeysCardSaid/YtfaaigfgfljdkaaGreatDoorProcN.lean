/- proc.nested, proc.Check. -/
import Derived.Test.YtfaaigfgfljdkaaGreatDoorProc
import Derived.Test.YtfaaigfgfljdkaaGreatDoorBool
import Derived.Deep.AppendLies
namespace Go.Proofs.YtfaaigfgfljdkaaGreatDoor
set_option maxRecDepth 100000
open Go.RowKit

theorem Tryz.infoIntN : (Tryz.prog.info? 3).map (fun i => (i.zero, i.size, i.bytes)) = some (some (.int .i64 0), 1, 8) := by kernel_rfl
def sliceLen : Value → Nat
  | .slice _ n _ => n
  | _ => 0
/-- A stack of numbers in a row of the call's own. -/
def StkR (w : World) (v : Value) (es : List Int) (wr : World) : Prop :=
  ∃ A c, v = .slice A es.length c ∧ wr.ownsRow w.heap.size 3 1 v es.length (es.map (Value.int .i64)) ∧ Below w.heap.size w wr
theorem StkR.nil (w : World) : StkR w (.slice none 0 0) [] w := ⟨none, 0, rfl, World.ownsRow_nil _ _ _ _, Below.refl _ _⟩
theorem StkR.below {w wr w' : World} {v : Value} {es : List Int} (h : StkR w v es wr) (hb : Below wr.heap.size wr w') : StkR w v es w' :=
  let ⟨A, c, e, h1, h2⟩ := h; ⟨A, c, e, own_below h1 hb, h2.trans (hb.mono h2.size)⟩
/-- The last one goes. -/
theorem own_shrink {w : World} {base : Nat} {e : TypeId} {A : Option Addr} {n c : Nat} {xs : List Value} {x : Value} (h : w.ownsRow base e 1 (.slice A (n + 1) c) (n + 1) (xs ++ [x])) (hl : xs.length = n) : w.ownsRow base e 1 (.slice A n c) n xs := by
  rcases h.2 with ⟨h1, h2⟩ | ⟨g, cap, cur, hv, hg, hb, hn, hc, hs, ht⟩
  · injection h1 with _ h1 _; omega
  · injection hv with e1 e2 e3
    subst e1 e3
    refine ⟨by simpa using hl, .inr ⟨g, c, cur, rfl, hg, hb, by omega, hc, hs, ?_⟩⟩
    have h3 : (cur.toList.take ((n + 1) * 1)).take (n * 1) = (xs ++ [x]).take (n * 1) := by rw [ht]
    rw [List.take_take, Nat.min_eq_left (by omega)] at h3
    rw [h3, List.take_append_of_le_length (by omega), List.take_of_length_le (by omega)]
theorem StkR.pop {w wr : World} {A : Option Addr} {n c : Nat} {es : List Int} {x : Int} (h : StkR w (.slice A n c) (es ++ [x]) wr) : StkR w (.slice A es.length c) es wr := by
  obtain ⟨A', c', hv, h1, h2⟩ := h
  injection hv with e1 e2 e3
  subst e1 e2 e3
  rw [List.length_append, List.map_append] at h1
  exact ⟨A, c, rfl, own_shrink h1 (by simp), h2⟩
theorem StkR.top {w wr : World} {A : Option Addr} {n c : Nat} {es : List Int} {x : Int} (h : StkR w (.slice A n c) (es ++ [x]) wr) : ∃ g, A = some ⟨g, 0, none⟩ ∧ wr.cell? ⟨g, es.length, none⟩ = some (.int .i64 x) ∧ g < wr.heap.size ∧ es.length + 1 ≤ c := by
  obtain ⟨A', c', hv, h1, h2⟩ := h
  injection hv with e1 e2 e3
  subst e1 e2 e3
  obtain ⟨g, cap, hv, hg0, hgl⟩ := h1.form (by simp)
  have hcap : es.length + 1 ≤ c := by
    rcases h1.2 with ⟨_, h0⟩ | ⟨_, _, _, hv2, _, _, hn, _⟩
    · simp at h0
    · injection hv2 with _ _ e3
      subst e3
      simpa using hn
  injection hv with e1 e2 e3
  subst e1
  refine ⟨g, rfl, ?_, hgl, hcap⟩
  have := h1.cellAt es.length (by simp)
  rw [this]
  simp
theorem OpRd.at_ {w : World} {F : Nat → Prop} {A : Option Addr} {n c : Nat} {l : List POp} (h : OpRd w F (.slice A n c) l) {k : Nat} {x : POp} (hk : l[k]? = some x) :
    ∃ b o, A = some ⟨b, o, none⟩ ∧ F b ∧ w.cell? ⟨b, o + k * 5, none⟩ = some (.int .i64 x.d) ∧ w.cell? ⟨b, o + k * 5 + 1, none⟩ = some (.int .i64 x.a) ∧ w.cell? ⟨b, o + k * 5 + 2, none⟩ = some (.int .i64 x.b) ∧
      w.cell? ⟨b, o + k * 5 + 3, none⟩ = some (.int .i64 x.c) ∧ w.cell? ⟨b, o + k * 5 + 4, none⟩ = some (.int .i64 x.n) := by
  obtain ⟨A', n', c', hv, hl, _, _, hx⟩ := h
  injection hv with h1 h2 h3
  subst h1 h2 h3
  have hlt := (List.getElem?_eq_some_iff.1 hk).1
  obtain ⟨b, o, rfl, hF, hc⟩ := hx (by simp at hl; omega)
  have hx' : (l.map POp.cells)[k]? = some x.cells := by simp [hk]
  exact ⟨b, o, rfl, hF, hc k _ hx' 0 _ rfl, hc k _ hx' 1 _ rfl, hc k _ hx' 2 _ rfl, hc k _ hx' 3 _ rfl, hc k _ hx' 4 _ rfl⟩
theorem OpRd.slice {w : World} {F : Nat → Prop} {v : Value} {l : List POp} (h : OpRd w F v l) : ∃ A c, v = .slice A l.length c ∧ l.length ≤ c ∧ c ≤ maxLen := by
  obtain ⟨A', n', c', hv, hl, h1, h2, _⟩ := h
  simp at hl
  exact ⟨A', c', by rw [hl]; exact hv, by omega, h2⟩

/-- At the head of a round of nested. -/
def NestR (w : World) (l : List POp) (k : Nat) (v : Value) (wr : World) : Prop :=
  ∃ es, StkR w v es wr ∧ es.Pairwise (fun a b => a ≥ b) ∧ es.filter (fun e => decide ((k : Int) < e)) = opens l k ∧ nestedTo l k = true ∧ es.length ≤ k

set_option maxRecDepth 100000 in
set_option maxHeartbeats 2000000 in
theorem nested_ok (w : World) (F : Nat → Prop) (v : Value) (l : List POp) (h : OpRd w F v l) (hl : l.length ≤ 64) (hn : ∀ o ∈ l, o.holds = true → 0 ≤ o.n ∧ o.n ≤ 64) :
    Calls Tryz.prog 145 #[v] w fun e w' => e = .returned (.bool (nestedB l)) ∧ Below w.heap.size w w' := by
  obtain ⟨i0, hi, hz0, hz1, hz2⟩ := info_parts Tryz.infoIntN
  obtain ⟨A, c, rfl, _⟩ := h.slice
  have H := Lib.hid (And.intro h (And.intro hn hi))
  clear h hn hi
  go_enter Tryz.func145, Tryz.ntmps145
  go_wp2_with fail
  go_loopw [3, 10] (fun v i wr => ∃ k : Nat, k ≤ l.length ∧ i = .int .i64 (k : Int) ∧ NestR w l k v wr) (fun _ i _ => l.length - (intOf i).toNat)
  case atStart => exact ⟨0, Nat.zero_le _, rfl, [], StkR.nil w, List.Pairwise.nil, rfl, rfl, Nat.le_refl _⟩
  case round =>
    obtain ⟨k, hk, rfl, es0, hst, hpw, hfl, hnt, hle0⟩ := hrel
    by_cases hlt : k < l.length
    · obtain ⟨x, hx⟩ : ∃ x, l[k]? = some x := ⟨_, List.getElem?_eq_getElem hlt⟩
      obtain ⟨b, o, rfl, hFb, c0, c1, c2, c3, c4⟩ := H.out.1.at_ hx
      have hbl : Below w.heap.size w wr := let ⟨_, _, _, _, hb⟩ := hst; hb
      have hbw := World.block_lt_of_cell? _ _ c0
      have d0 := (hbl.cell (p := ⟨b, o + k * 5, none⟩) hbw).trans c0
      have d1 := (hbl.cell (p := ⟨b, o + k * 5 + 1, none⟩) hbw).trans c1
      have d2 := (hbl.cell (p := ⟨b, o + k * 5 + 2, none⟩) hbw).trans c2
      have d3 := (hbl.cell (p := ⟨b, o + k * 5 + 3, none⟩) hbw).trans c3
      have d4 := (hbl.cell (p := ⟨b, o + k * 5 + 4, none⟩) hbw).trans c4
      obtain ⟨D, A', B', C', N'⟩ := x
      simp only at d0 d1 d2 d3 d4
      have hst4 := hst.below (((Below.refl _ _).alloc (Nat.le_refl _) (.cells #[.int .i64 D, .int .i64 A', .int .i64 B', .int .i64 C', .int .i64 N'] 160)))
      have HX := Lib.hid (And.intro hx (And.intro hpw (And.intro hfl (And.intro hnt hst4))))
      obtain ⟨A0, c0', rfl, _, _⟩ := hst
      clear hx hpw hfl hnt hst4 hbl c0 c1 c2 c3 c4 hFb
      go_upto_region 5 with fail
      have q0 : (wr.alloc (.cells #[.int .i64 D, .int .i64 A', .int .i64 B', .int .i64 C', .int .i64 N'] 160)).cell? ⟨wr.heap.size, 0, none⟩ = some (.int .i64 D) := by simp
      have q1 : (wr.alloc (.cells #[.int .i64 D, .int .i64 A', .int .i64 B', .int .i64 C', .int .i64 N'] 160)).cell? ⟨wr.heap.size, 1, none⟩ = some (.int .i64 A') := by simp
      have q2 : (wr.alloc (.cells #[.int .i64 D, .int .i64 A', .int .i64 B', .int .i64 C', .int .i64 N'] 160)).cell? ⟨wr.heap.size, 2, none⟩ = some (.int .i64 B') := by simp
      have q3 : (wr.alloc (.cells #[.int .i64 D, .int .i64 A', .int .i64 B', .int .i64 C', .int .i64 N'] 160)).cell? ⟨wr.heap.size, 3, none⟩ = some (.int .i64 C') := by simp
      have q4 : (wr.alloc (.cells #[.int .i64 D, .int .i64 A', .int .i64 B', .int .i64 C', .int .i64 N'] 160)).cell? ⟨wr.heap.size, 4, none⟩ = some (.int .i64 N') := by simp
      generalize wr.alloc (.cells #[.int .i64 D, .int .i64 A', .int .i64 B', .int .i64 C', .int .i64 N'] 160) = W4 at HX q0 q1 q2 q3 q4 ⊢
      obtain ⟨B4, hB4⟩ : ∃ B, wr.heap.size = B := ⟨_, rfl⟩
      rw [hB4] at q0 q1 q2 q3 q4 ⊢
      clear hB4 d0 d1 d2 d3 d4 hbw
      go_loop [3] (fun v => ∃ es, StkR w v es W4 ∧ es.Pairwise (fun a b => a ≥ b) ∧ es.filter (fun e => decide ((k : Int) < e)) = opens l k ∧ es.length ≤ k) (fun v => sliceLen v)
      case atStart => exact ⟨es0, HX.out.2.2.2.2, HX.out.2.1, HX.out.2.2.1, hle0⟩
      case round =>
        obtain ⟨es, hst, hpw, hfl, hle⟩ := hrel
        obtain ⟨A5, c5, rfl, how, hbl⟩ := hst
        have hst : StkR w (.slice A5 es.length c5) es W4 := ⟨A5, c5, rfl, how, hbl⟩
        clear how hbl
        rcases List.eq_nil_or_concat es with rfl | ⟨es', z, hes⟩
        · obtain ⟨es, hes⟩ : ∃ es : List Int, es = [] := ⟨[], rfl⟩
          have HES := Lib.hid hes
          have HLEN := Lib.hid (show es.length = 0 by rw [hes]; rfl)
          have hle0 : es.length ≤ 0 := by rw [hes]; exact Nat.le_refl _
          have HO := Lib.hid (show StkR w (.slice A5 0 c5) es W4 ∧ es.Pairwise (fun a b => a ≥ b) ∧ es = opens l k ∧ es.length ≤ k by rw [hes]; exact ⟨hst, hpw, hfl, Nat.zero_le _⟩)
          clear hst hpw hfl hes
          by_cases h8 : es.length ≤ 8
          · have h8' : ¬ ((8 : Int) < (0 : Int)) := by omega
            go_wp2_with fail
            refine (holds_ok W4 ⟨D, A', B', C', N'⟩).mono ?_
            rintro e5 w5 ⟨rfl, hb5⟩
            have q4' := (hb5.cell (p := ⟨B4, 4, none⟩) (World.block_lt_of_cell? _ _ q4)).trans q4
            have HST5 := Lib.hid (And.intro (HO.out.1.below hb5) hb5)
            clear hb5
            cases hh : (⟨D, A', B', C', N'⟩ : POp).holds with
            | false =>
              have HH := Lib.hid hh
              clear hh
              go_wp2_with fail
              go_roundw
              case rel =>
                have hpl : placeB l k ⟨D, A', B', C', N'⟩ = true := by unfold placeB; rw [← HO.out.2.2.1, HH.out, decide_eq_true h8]; rfl
                exact ⟨k + 1, by omega, by go_num, es, HST5.out.1, HO.out.2.1, by rw [HO.out.2.2.1]; exact stack_no HX.out.1 HH.out, by rw [nestedTo_succ HX.out.1, HX.out.2.2.2.1, hpl]; rfl, by omega⟩
              case measure => simp [intOf]; omega
            | true =>
              have hnb := H.out.2.1 _ (List.mem_of_getElem? HX.out.1) hh
              simp only at hnb
              have hnb1 := hnb.1
              have hnb2 := hnb.2
              have HH := Lib.hid hh
              clear hh hnb
              have hlo := Lib.hid (show lastOf l.length (opens l k) = (l.length : Int) by rw [← HO.out.2.2.1, HES.out]; rfl)
              have hmx := Lib.hid (show ∀ e ∈ es, (k : Int) + 1 + N' ≤ e by intro e he; rw [HES.out] at he; simp at he)
              by_cases hend : (l.length : Int) < (k : Int) + 1 + N'
              · have HE := Lib.hid hend
                go_wp2_with fail
                go_ret
                refine ⟨?_, let ⟨_, _, _, _, hb⟩ := HST5.out.1; hb⟩
                have hpl : placeB l k ⟨D, A', B', C', N'⟩ = false := by
                  unfold placeB
                  rw [hlo.out, HH.out]
                  have : ¬ endOf k ⟨D, A', B', C', N'⟩ ≤ (l.length : Int) := by have := HE.out; unfold endOf; simp only; omega
                  rw [decide_eq_false this]
                  simp
                have : nestedB l = false := by
                  rw [Bool.eq_false_iff]
                  intro hh
                  have h1 := nestedTo_mono hh (show k + 1 ≤ l.length by omega)
                  rw [nestedTo_succ HX.out.1, hpl] at h1
                  simp at h1
                rw [this]
                rfl
              · have HE := Lib.hid hend
                have hownx := HST5.out.1
                obtain ⟨Ax, cx, hvx, hox, hbx⟩ := hownx
                rw [HLEN.out] at hox
                have hnews := World.news_of_block (heap_alloc_new w5 (.cells #[.int .i64 ((k : Int) + 1 + N')] 3))
                have hsx := hbx.size
                have HA := Lib.hid (And.intro (hox.alloc (.cells #[.int .i64 ((k : Int) + 1 + N')] 3)) (And.intro hnews (And.intro hbx (And.intro hox H.out.2.2))))
                clear hvx hox hbx hnews
                go_wp2_with (at_builtin; go_loud (refine wpList_append_lies _ rfl _ _ 65 rfl w.heap.size 3 i0 _ 1 8 Tryz.underlying65 HA.out.2.2.2.2 hz0 hz1 hz2 rfl (by decide) _ (0) _ rfl HA.out.1 ⟨w5.heap.size, 0, none⟩ 1 1 [.int .i64 ((k : Int) + 1 + N')] rfl rfl HA.out.2.1 (by simp [Value.oneCell']) (by decide) (by unfold maxLen; omega) (by omega) (by simp; omega) _ rfl ?_))
                intro g6 cap6 w6 hown6 hg6 hat6 hlt6
                have HG := Lib.hid (And.intro hown6 hg6)
                clear hown6 hg6 hat6 hlt6
                go_wp2_with fail
                go_roundw
                case rel =>
                  have hpl : placeB l k ⟨D, A', B', C', N'⟩ = true := by
                    unfold placeB
                    rw [hlo.out, ← HO.out.2.2.1, HH.out, decide_eq_true h8]
                    have : endOf k ⟨D, A', B', C', N'⟩ ≤ (l.length : Int) := by have := HE.out; unfold endOf; simp only; omega
                    rw [decide_eq_true this]
                    rfl
                  have hmx : ∀ e ∈ es, (k : Int) + 1 + N' ≤ e := hmx.out
                  refine ⟨k + 1, by omega, by go_num, es ++ [(k : Int) + 1 + N'], ⟨some ⟨g6, 0, none⟩, cap6, by rw [HES.out]; rfl, ?_, ?_⟩, falls_snoc HO.out.2.1 hmx, ?_, by rw [nestedTo_succ HX.out.1, HX.out.2.2.2.1, hpl]; rfl, by simp; omega⟩
                  · have h9 := HG.out.1
                    rw [HES.out] at h9 ⊢
                    simpa using h9
                  · exact (HA.out.2.2.1.alloc hsx _).grown HG.out.2 (by simp; omega) (fun j hj => (HA.out.2.2.2.1.lt j hj).1)
                  · rw [HO.out.2.2.1]
                    exact stack_yes HX.out.1 HH.out
                case measure => simp [intOf]; omega
          · have h8' : (8 : Int) < (0 : Int) := by omega
            go_wp2_with fail
            go_ret
            refine ⟨?_, let ⟨_, _, _, _, hb⟩ := HO.out.1; hb⟩
            have hpl : placeB l k ⟨D, A', B', C', N'⟩ = false := by
              unfold placeB
              rw [← HO.out.2.2.1, decide_eq_false h8]
              rfl
            have : nestedB l = false := by
              rw [Bool.eq_false_iff]
              intro hh
              have h1 := nestedTo_mono hh (show k + 1 ≤ l.length by omega)
              rw [nestedTo_succ HX.out.1, hpl] at h1
              simp at h1
            rw [this]
            rfl
        · rw [List.concat_eq_append] at hes
          obtain ⟨g, hA5, hcz, hgl, hcap⟩ := (show StkR w (.slice A5 es.length c5) (es' ++ [z]) W4 by rw [← hes]; exact hst).top
          have hlen : es.length = es'.length + 1 := by rw [hes]; simp
          subst hA5
          by_cases hzk : z ≤ (k : Int)
          · have HO := Lib.hid (And.intro hst (And.intro hpw (And.intro hfl hes)))
            clear hst hpw hfl hes
            rw [hlen]
            go_wp2_with fail
            go_round
            case rel =>
              have hst' : StkR w (.slice (some ⟨g, 0, none⟩) (es'.length + 1) c5) (es' ++ [z]) W4 := by rw [← hlen, ← HO.out.2.2.2]; exact HO.out.1
              have hpw' : (es' ++ [z]).Pairwise (fun a b => a ≥ b) := by rw [← HO.out.2.2.2]; exact HO.out.2.1
              refine ⟨es', hst'.pop, (List.pairwise_append.1 hpw').1, ?_, by omega⟩
              have h1 := HO.out.2.2.1
              rw [HO.out.2.2.2, List.filter_append, List.filter_cons, if_neg (by simp; omega), List.filter_nil, List.append_nil] at h1
              exact h1
            case measure => simp [sliceLen]
          · have HES := Lib.hid hes
            have hall : es.filter (fun e => decide ((k : Int) < e)) = es := falls_all hpw (fun e he => by rw [hes] at he; simp at he; omega)
            rw [hall] at hfl
            have HLEN := Lib.hid hlen
            have HO := Lib.hid (show StkR w (.slice (some ⟨g, 0, none⟩) (es'.length + 1) c5) es W4 ∧ es.Pairwise (fun a b => a ≥ b) ∧ es = opens l k ∧ es.length ≤ k by rw [← hlen]; exact ⟨hst, hpw, hfl, hle⟩)
            have hl1 : es.length ≤ es'.length + 1 := by omega
            have hl2 : es'.length + 1 ≤ es.length := by omega
            rw [hlen]
            clear hst hpw hfl hes hall hlen
            by_cases h8 : es.length ≤ 8
            · have h8' : ¬ ((8 : Int) < ((es'.length : Int) + 1)) := by omega
              go_wp2_with fail
              refine (holds_ok W4 ⟨D, A', B', C', N'⟩).mono ?_
              rintro e5 w5 ⟨rfl, hb5⟩
              have q4' := (hb5.cell (p := ⟨B4, 4, none⟩) (World.block_lt_of_cell? _ _ q4)).trans q4
              have hcz' := (hb5.cell (p := ⟨g, es'.length, none⟩) hgl).trans hcz
              have HST5 := Lib.hid (And.intro (HO.out.1.below hb5) hb5)
              clear hb5
              cases hh : (⟨D, A', B', C', N'⟩ : POp).holds with
              | false =>
                have HH := Lib.hid hh
                clear hh
                go_wp2_with fail
                go_roundw
                case rel =>
                  have hpl : placeB l k ⟨D, A', B', C', N'⟩ = true := by unfold placeB; rw [← HO.out.2.2.1, HH.out, decide_eq_true h8]; rfl
                  exact ⟨k + 1, by omega, by go_num, es, HST5.out.1, HO.out.2.1, by rw [HO.out.2.2.1]; exact stack_no HX.out.1 HH.out, by rw [nestedTo_succ HX.out.1, HX.out.2.2.2.1, hpl]; rfl, by omega⟩
                case measure => simp [intOf]; omega
              | true =>
                have hnb := H.out.2.1 _ (List.mem_of_getElem? HX.out.1) hh
                simp only at hnb
                have hnb1 := hnb.1
                have hnb2 := hnb.2
                have HH := Lib.hid hh
                clear hh hnb
                have hlo := Lib.hid (show lastOf l.length (opens l k) = z by rw [← HO.out.2.2.1, HES.out]; simp [lastOf])
                by_cases hend : z < (k : Int) + 1 + N'
                · have HE := Lib.hid hend
                  go_wp2_with fail
                  go_ret
                  refine ⟨?_, let ⟨_, _, _, _, hb⟩ := HST5.out.1; hb⟩
                  have hpl : placeB l k ⟨D, A', B', C', N'⟩ = false := by
                    unfold placeB
                    rw [hlo.out, HH.out]
                    have : ¬ endOf k ⟨D, A', B', C', N'⟩ ≤ z := by have := HE.out; unfold endOf; simp only; omega
                    rw [decide_eq_false this]
                    simp
                  have : nestedB l = false := by
                    rw [Bool.eq_false_iff]
                    intro hh
                    have h1 := nestedTo_mono hh (show k + 1 ≤ l.length by omega)
                    rw [nestedTo_succ HX.out.1, hpl] at h1
                    simp at h1
                  rw [this]
                  rfl
                · have HE := Lib.hid hend
                  have hownx := HST5.out.1
                  obtain ⟨Ax, cx, hvx, hox, hbx⟩ := hownx
                  rw [HLEN.out] at hox
                  have hnews := World.news_of_block (heap_alloc_new w5 (.cells #[.int .i64 ((k : Int) + 1 + N')] 3))
                  have hsx := hbx.size
                  have HA := Lib.hid (And.intro (hox.alloc (.cells #[.int .i64 ((k : Int) + 1 + N')] 3)) (And.intro hnews (And.intro hbx (And.intro hox H.out.2.2))))
                  clear hvx hox hbx hnews
                  go_wp2_with (at_builtin; go_loud (refine wpList_append_lies _ rfl _ _ 65 rfl w.heap.size 3 i0 _ 1 8 Tryz.underlying65 HA.out.2.2.2.2 hz0 hz1 hz2 rfl (by decide) _ (es'.length + 1) _ rfl HA.out.1 ⟨w5.heap.size, 0, none⟩ 1 1 [.int .i64 ((k : Int) + 1 + N')] rfl rfl HA.out.2.1 (by simp [Value.oneCell']) (by decide) (by unfold maxLen; omega) (by omega) (by simp; omega) _ rfl ?_))
                  intro g6 cap6 w6 hown6 hg6 hat6 hlt6
                  have HG := Lib.hid (And.intro hown6 hg6)
                  clear hown6 hg6 hat6 hlt6
                  go_wp2_with fail
                  go_roundw
                  case rel =>
                    have hpl : placeB l k ⟨D, A', B', C', N'⟩ = true := by
                      unfold placeB
                      rw [hlo.out, ← HO.out.2.2.1, HH.out, decide_eq_true h8]
                      have : endOf k ⟨D, A', B', C', N'⟩ ≤ z := by have := HE.out; unfold endOf; simp only; omega
                      rw [decide_eq_true this]
                      rfl
                    have hmx : ∀ e ∈ es, (k : Int) + 1 + N' ≤ e := (by rw [HES.out]; exact falls_last (by rw [← HES.out]; exact HO.out.2.1) (by have := HE.out; omega))
                    refine ⟨k + 1, by omega, by go_num, es ++ [(k : Int) + 1 + N'], ⟨some ⟨g6, 0, none⟩, cap6, by rw [HES.out]; simp, ?_, ?_⟩, falls_snoc HO.out.2.1 hmx, ?_, by rw [nestedTo_succ HX.out.1, HX.out.2.2.2.1, hpl]; rfl, by simp; omega⟩
                    · have h9 := HG.out.1
                      rw [show (es ++ [(k : Int) + 1 + N']).length = es'.length + 1 + 1 by simp [HLEN.out]]
                      simpa using h9
                    · exact (HA.out.2.2.1.alloc hsx _).grown HG.out.2 (by simp; omega) (fun j hj => (HA.out.2.2.2.1.lt j hj).1)
                    · rw [HO.out.2.2.1]
                      exact stack_yes HX.out.1 HH.out
                  case measure => simp [intOf]; omega
            · have h8' : (8 : Int) < ((es'.length : Int) + 1) := by omega
              go_wp2_with fail
              go_ret
              refine ⟨?_, let ⟨_, _, _, _, hb⟩ := HO.out.1; hb⟩
              have hpl : placeB l k ⟨D, A', B', C', N'⟩ = false := by
                unfold placeB
                rw [← HO.out.2.2.1, decide_eq_false h8]
                rfl
              have : nestedB l = false := by
                rw [Bool.eq_false_iff]
                intro hh
                have h1 := nestedTo_mono hh (show k + 1 ≤ l.length by omega)
                rw [nestedTo_succ HX.out.1, hpl] at h1
                simp at h1
              rw [this]
              rfl
    · obtain rfl : k = l.length := by omega
      have HX := Lib.hid (And.intro hst hnt)
      obtain ⟨A0, c0', rfl, _, _⟩ := hst
      clear hnt hpw hfl
      go_wp2_with fail
      go_ret
      exact ⟨by rw [show nestedB l = true from HX.out.2]; rfl, let ⟨_, _, _, _, hb⟩ := HX.out.1; hb⟩

end Go.Proofs.YtfaaigfgfljdkaaGreatDoor
