/- Proved: LocksLast returns true for every input: a number that comes last turns nothing for those ahead of it; no condition. -/
import Derived.Test.YtdmpdlpfanfjoaaLockO
namespace Go.Proofs.Ytdmpdlpfanfjoaa
open Go.ChangeShapes Go.WideShapes Go.ChangeAt Go.RowKit

/-- Numbers that are places. -/
def Placed (l : List Ent) : Prop := ∀ (i : Nat) (e : Ent), l[i]? = some e → e.1 = (i : Int)
theorem Placed.snoc {l : List Ent} (h : Placed l) {k : Nat} (hk : l.length = k) (f : List Cl) : Placed (l ++ [((k : Int), f)]) := by
  intro i e he
  by_cases hi : i < l.length
  · rw [List.getElem?_append_left hi] at he
    exact h i e he
  · rw [List.getElem?_append_right (by omega)] at he
    have : i - l.length = 0 := by
      have := (List.getElem?_eq_some_iff.1 he).1
      simp at this
      omega
    rw [this] at he
    simp at he
    subst he
    show (k : Int) = i
    omega
theorem Placed.mem {l : List Ent} (h : Placed l) {i : Nat} (hi : i < l.length) : (i : Int) ∈ nums l := by
  have he : l[i]? = some l[i] := List.getElem?_eq_getElem hi
  have := h i _ he
  exact mem_nums.2 ⟨l[i].2, by rw [← this]; exact List.getElem_mem hi⟩
theorem Placed.lt {l : List Ent} (h : Placed l) : ∀ e ∈ l, 0 ≤ e.1 ∧ e.1 < (l.length : Int) := by
  intro e he
  obtain ⟨i, hi, rfl⟩ := List.getElem_of_mem he
  have := h i _ (List.getElem?_eq_getElem hi)
  omega
theorem Placed.nil : Placed [] := fun i e h => by simp at h
theorem ready_snoc {l : List Ent} (hr : Rise l) {id : Int} (hid : ∀ e ∈ l, e.1 < id) (f : List Cl) : ready (l ++ [(id, f)]) = ready l ++ (if rdyB (l ++ [(id, f)]) id = true then [id] else []) := by
  unfold ready
  rw [nums_snoc, List.filter_append]
  congr 1
  · refine List.filter_congr fun i hi => ?_
    have hne : i ≠ id := fun e => by subst e; exact new_not hid hi
    unfold rdyB
    rw [opn_snoc hr hid, if_neg hne]
  · split <;> simp_all
theorem rdyB_waits {l : List Ent} {i : Int} : rdyB l i = true ↔ waits l i = [] := by
  unfold rdyB opn
  rw [beq_iff_eq, List.length_eq_zero_iff]
theorem Rd.take {w : World} {F : Nat → Prop} {A : Option Addr} {n c : Nat} {xs : List Value} (h : Rd w F (.slice A n c) xs) {m : Nat} (hm : m ≤ n) : Rd w F (.slice A m c) (xs.take m) := by
  obtain ⟨A', n', c', hv, hl, h1, h2, hx⟩ := h
  injection hv with e1 e2 e3
  subst e1 e2 e3
  refine ⟨A, m, c, rfl, by simp; omega, by omega, h2, fun h0 => ?_⟩
  obtain ⟨b, o, e, hF, hu⟩ := hx (by omega)
  refine ⟨b, o, e, hF, fun j u hj => hu j u ?_⟩
  have hlt := (List.getElem?_eq_some_iff.1 hj).1
  rw [List.getElem?_take_of_lt (by simp at hlt; omega)] at hj
  exact hj
/-- While the footprints come; the last one comes to one Locks alone. -/
def LastR (w0 : World) (b1 b2 : Nat) (N k : Nat) (wr : World) : Prop :=
  ∃ F G C l n n' sm la sm' la', One w0 wr F C b1 sm la (l.take N) n ∧ One w0 wr G C b2 sm' la' l n' ∧ (∀ k, F k → ¬ G k) ∧ l.length = k ∧ Placed l ∧ (sm = true → la < (k : Int)) ∧ (sm' = true → la' < (k : Int)) ∧ n ≤ 100 * k ∧ n' ≤ 100 * k
/-- Two Locks that are only asked. -/
def AskR (w0 : World) (F G C : Nat → Prop) (b1 b2 : Nat) (sm sm' : Bool) (la la' : Int) (l l' : List Ent) (n n' : Nat) (wr : World) : Prop := One w0 wr F C b1 sm la l n ∧ One w0 wr G C b2 sm' la' l' n'

set_option maxRecDepth 100000 in
set_option maxHeartbeats 1000000 in
theorem llast_far (w0 : World) (v0 : Value) (ls : List (List Cl)) (h0 : RowsC w0 v0 ls) (hl : ls.length = 0 ∨ 20 < ls.length) :
    Calls Try.prog 15 #[v0] w0 fun e w' => e = .returned (.bool true) ∧ Below w0.heap.size w0 w' := by
  obtain ⟨A0, c0, rfl, hlm⟩ := h0.slice
  unfold maxLen at hlm
  clear h0
  have HB0 := Lib.hid (Below.refl w0.heap.size w0)
  rcases hl with hl | hl
  · rw [hl]
    go_enter Try.func15, Try.ntmps15
    go_wp2_with fail
    refine (awake10_ok _).mono ?_
    rintro e wq ⟨rfl, hb⟩
    have HB := Lib.hid (HB0.out.trans (hb.mono HB0.out.size))
    clear hb
    go_wp2_with fail
    go_ret
    exact ⟨rfl, HB.out⟩
  · have hl1 : ¬ ((ls.length : Int) - 1 < 0) := by omega
    have hl2 : (19 : Int) < (ls.length : Int) - 1 := by omega
    go_enter Try.func15, Try.ntmps15
    go_wp2_with fail
    refine (awake10_ok _).mono ?_
    rintro e wq ⟨rfl, hb⟩
    have HB := Lib.hid (HB0.out.trans (hb.mono HB0.out.size))
    clear hb
    go_wp2_with fail
    go_ret
    exact ⟨rfl, HB.out⟩

set_option maxRecDepth 100000 in
set_option maxHeartbeats 4000000 in
theorem llast_ok (w0 : World) (v0 : Value) (ls : List (List Cl)) (N : Nat) (h0 : RowsC w0 v0 ls) (hN : ls.length = N + 1) (hl : N ≤ 19) :
    Calls Try.prog 15 #[v0] w0 fun e w' => e = .returned (.bool true) ∧ Below w0.heap.size w0 w' := by
  obtain ⟨A0, c0, rfl, hlm⟩ := h0.slice
  have HZ := Lib.hid (And.intro h0 hN)
  rw [hN]
  clear h0 hlm hN
  go_enter Try.func15, Try.ntmps15
  go_wp2_with fail
  refine (lnew_ok w0).mono ?_
  rintro e w1 ⟨b1, rfl, hb1, hl1⟩
  have HX := Lib.hid (One.start hb1 hl1)
  clear hb1 hl1
  go_wp2_with fail
  refine (lnew_ok w1).mono ?_
  rintro e w2 ⟨b2, rfl, hb2, hl2⟩
  have hy : One w0 w2 (New w1 w2) (fun _ => False) b2 false 0 [] 0 := ⟨hl2, fun k hk => Nat.le_trans HX.out.2.2.size hk.1, HX.out.2.2.trans (hb2.mono HX.out.2.2.size)⟩
  have hap : ∀ k, New w0 w1 k → ¬ New w1 w2 k := fun k h1 h2 => by have := h1.2; have := h2.1; omega
  have HS := Lib.hid (show LastR w0 b1 b2 N 0 w2 from ⟨_, _, _, [], 0, 0, false, 0, false, 0, by simpa using HX.out.below hb2, hy, hap, rfl, Placed.nil, (fun h => by cases h), (fun h => by cases h), Nat.zero_le _, Nat.zero_le _⟩)
  clear HX hy hap hb2 hl2
  go_wp2_with fail
  go_loopw [6] (fun i wr => ∃ k : Nat, k ≤ N + 1 ∧ i = .int .i64 (k : Int) ∧ LastR w0 b1 b2 N k wr) (fun i _ => N + 1 - (intOf i).toNat)
  case atStart => exact ⟨0, Nat.zero_le _, rfl, HS.out⟩
  case round =>
    obtain ⟨k, hk, rfl, F, G, C, l, n, n', sm, la, sm', la', hx, hy, hap, hlk, hpl, hsm, hsm', hn, hn'⟩ := hrel
    by_cases hlt : k < N + 1
    · obtain ⟨q, hq⟩ : ∃ q, ls[k]? = some q := ⟨_, List.getElem?_eq_getElem (by rw [HZ.out.2]; exact hlt)⟩
      obtain ⟨br, or_, Ar, cr, rfl, hcr, hrd, hfit⟩ := RowsC.at_ HZ.out.1 hq
      have hcr' := (hx.2.2.cell (p := ⟨br, or_ + k, none⟩) (World.block_lt_of_cell? _ _ hcr)).trans hcr
      have hqm : q.length ≤ 9223372036854775807 := by have := RdK.length_le hrd; simp [maxLen] at this; omega
      have HQ := Lib.hid (And.intro hrd (And.intro hfit hq))
      have HL := Lib.hid (And.intro hx (And.intro hy (And.intro hap (And.intro hlk (And.intro hpl (And.intro hsm (And.intro hsm' (And.intro hn hn'))))))))
      clear hcr hrd hfit hq hx hy hap hlk hpl hsm hsm' hn hn'
      by_cases hq20 : 20 < q.length
      · have HB1 := Lib.hid HL.out.1.2.2
        go_wp2_with fail
        refine (awake10_ok _).mono ?_
        rintro e wq ⟨rfl, hb⟩
        have HB := Lib.hid (HB1.out.trans (hb.mono HB1.out.size))
        clear hb
        go_wp2_with fail
        go_ret
        exact ⟨rfl, HB.out⟩
      · go_wp2_with fail
        refine (new_ok wr (fun _ => True) _ q (RdK.below HQ.out.1 HL.out.1.2.2) (by omega) HQ.out.2.1).mono ?_
        intro e w3 hnp
        obtain ⟨u1, n1, rfl, hnv⟩ := hnp.named
        have hb3 := hnv.1
        rcases hnv.cases with ⟨hn0, rfl⟩ | ⟨rfl, he0, out, hf, h64, A3, c3, rfl, hO⟩
        · have e1 : (n1 == 0) = false := by simpa using hn0
          have e2 : (n1 != 0) = true := by simpa using hn0
          have HB3 := Lib.hid (HL.out.1.2.2.trans ((hb3.alloc hb3.size (.cells #[.slice none 0 0] 30)).mono HL.out.1.2.2.size))
          clear hn0 hb3 hnv hnp
          go_wp2_with fail
          refine (awake10_ok _).mono ?_
          rintro e wq ⟨rfl, hb⟩
          have HB := Lib.hid (HB3.out.trans (hb.mono HB3.out.size))
          clear hb
          go_wp2_with fail
          go_ret
          exact ⟨rfl, HB.out⟩
        · have hft := FtC.box (C := C) hb3 hO (Nat.le_refl _)
          have hbx : Below wr.heap.size wr (w3.alloc (.cells #[.slice A3 out.length c3] 30)) := hb3.alloc hb3.size _
          clear hO hnv hnp hb3 hf he0
          go_upto_region 14 with fail
          generalize w3.alloc (.cells #[.slice A3 out.length c3] 30) = w4 at hft hbx ⊢
          obtain ⟨D, hD⟩ : ∃ D, Mor C wr w4 = D := ⟨_, rfl⟩
          have hx4 := HL.out.1.mor hbx
          have hy4 := HL.out.2.1.mor hbx
          rw [hD] at hx4 hy4 hft
          have FQ := Lib.hid hft
          have fb := FQ.out.cell
          have HX4 := Lib.hid (And.intro hx4 hy4)
          clear hx4 hy4 hft hbx hD
          have hlk := HL.out.2.2.2.1
          have hn5 := HL.out.2.2.2.2.2.2.2.1
          have hn5' := HL.out.2.2.2.2.2.2.2.2
          have hl5 : l.length ≤ 100000 := by omega
          have hn6 : n ≤ 1000000000 := by omega
          have hn6' : n' ≤ 1000000000 := by omega
          have HLK := Lib.hid hlk
          clear hlk
          by_cases hkN : k < N
          · have htk : l.take N = l := List.take_of_length_le (by rw [HLK.out]; omega)
            have HTK := Lib.hid htk
            clear htk
            go_wp2_with fail
            refine (enq_ok w4 F D b1 n sm la (l.take N) (k : Int) (.slice A3 out.length c3) out HX4.out.1.1 (by rw [HTK.out]; exact hl5) hn6 (by unfold I64; omega) FQ.out.2.2 (by omega)).mono ?_
            intro e w5 hq5
            obtain ⟨rfl, hoF, F', hx5, hF'⟩ := hq5.next HX4.out.1 HL.out.2.2.2.2.2.1
            rw [HTK.out] at hx5
            have hy5 := HX4.out.2.other HX4.out.1 hoF HL.out.2.2.1
            have hap5 := HX4.out.2.apart2 HL.out.2.2.1 hF'
            have FQ5 := Lib.hid (FQ.out.only hoF HX4.out.1.cF)
            have fb5 := FQ5.out.cell
            have HX5 := Lib.hid (And.intro hx5 (And.intro hy5 hap5))
            clear hq5 hoF hF' hx5 hy5 hap5 fb
            go_wp2_with fail
            refine (enq_ok w5 G D b2 n' sm' la' l (k : Int) (.slice A3 out.length c3) out HX5.out.2.1.1 hl5 hn6' (by unfold I64; omega) FQ5.out.2.2 (by omega)).mono ?_
            intro e w6 hq6
            obtain ⟨rfl, hoG, G', hy6, hG'⟩ := hq6.next HX5.out.2.1 HL.out.2.2.2.2.2.2.1
            have hx6 := HX5.out.1.other HX5.out.2.1 hoG (fun k hG hF => HX5.out.2.2 k hF hG)
            have hap6 := HX5.out.1.apart2 (fun k hG hF => HX5.out.2.2 k hF hG) hG'
            have HX6 := Lib.hid (And.intro hx6 (And.intro hy6 hap6))
            clear hq6 hoG hG' hx6 hy6 hap6 fb5
            go_wp2_with fail
            go_roundw
            case rel =>
              have htk2 : (l ++ [((k : Int), out)]).take N = l ++ [((k : Int), out)] := List.take_of_length_le (by simp [HLK.out]; omega)
              exact ⟨k + 1, by omega, by go_num, F', G', D, l ++ [((k : Int), out)], _, _, true, (k : Int), true, (k : Int), by rw [htk2]; exact HX6.out.1, HX6.out.2.1, fun k hF hG => HX6.out.2.2 k hG hF, by simp [HLK.out], HL.out.2.2.2.2.1.snoc HLK.out out, fun _ => by omega, fun _ => by omega, by have := HLK.out; omega, by have := HLK.out; omega⟩
            case measure => simp [intOf]; omega
          · have hkN' : k = N := by omega
            subst hkN'
            go_wp2_with fail
            refine (enq_ok w4 G D b2 n' sm' la' l (k : Int) (.slice A3 out.length c3) out HX4.out.2.1 hl5 hn6' (by unfold I64; omega) FQ.out.2.2 (by omega)).mono ?_
            intro e w6 hq6
            obtain ⟨rfl, hoG, G', hy6, hG'⟩ := hq6.next HX4.out.2 HL.out.2.2.2.2.2.2.1
            have hx6 := HX4.out.1.other HX4.out.2 hoG (fun k hG hF => HL.out.2.2.1 k hF hG)
            have hap6 := HX4.out.1.apart2 (fun k hG hF => HL.out.2.2.1 k hF hG) hG'
            have HX6 := Lib.hid (And.intro hx6 (And.intro hy6 hap6))
            clear hq6 hoG hG' hx6 hy6 hap6 fb
            go_wp2_with fail
            go_roundw
            case rel =>
              have htk2 : (l ++ [((k : Int), out)]).take k = l.take k := by rw [List.take_append_of_le_length (by rw [HLK.out]; exact Nat.le_refl _)]
              exact ⟨k + 1, by omega, by go_num, F, G', D, l ++ [((k : Int), out)], _, _, sm, la, true, (k : Int), by rw [htk2]; exact HX6.out.1, HX6.out.2.1, fun k hF hG => HX6.out.2.2 k hG hF, by simp [HLK.out], HL.out.2.2.2.2.1.snoc HLK.out out, fun h => by have := HL.out.2.2.2.2.2.1 h; omega, fun _ => by omega, by omega, by have := HLK.out; omega⟩
            case measure => simp [intOf] <;> omega
    · have hkl : k = N + 1 := by omega
      subst hkl
      obtain ⟨lp, e, rfl⟩ : ∃ lp e, l = lp ++ [e] := ⟨l.dropLast, l.getLast (fun h => by subst h; simp at hlk), (List.dropLast_concat_getLast _).symm⟩
      have hlp : lp.length = N := by simpa using hlk
      have htk : (lp ++ [e]).take N = lp := by rw [List.take_append_of_le_length (by omega), List.take_of_length_le (by omega)]
      rw [htk] at hx
      obtain ⟨eid, f⟩ := e
      have heid : eid = (N : Int) := by
        have := hpl N (eid, f) (by rw [List.getElem?_append_right (by omega)]; simp [hlp])
        exact this
      subst heid
      have hid : ∀ e ∈ lp, e.1 < (N : Int) := fun e he => by
        have h1 := (List.pairwise_append.1 hy.1.line.1).2.2 e he ((N : Int), f) (by simp)
        exact h1
      have hrs := ready_snoc hx.1.line.1 hid f
      have hmem : ∀ i : Nat, i < N → (i : Int) ∈ nums lp ∧ (i : Int) ∈ nums (lp ++ [((N : Int), f)]) ∧ waits (lp ++ [((N : Int), f)]) (i : Int) = waits lp (i : Int) := fun i hi => by
        have hp : (i : Int) ∈ nums lp := by
          have h1 : (i : Int) ∈ nums (lp ++ [((N : Int), f)]) := hpl.mem (by simp [hlp]; omega)
          rw [nums_snoc] at h1
          rcases List.mem_append.1 h1 with h1 | h1
          · exact h1
          · simp at h1; omega
        exact ⟨hp, by rw [nums_snoc]; exact List.mem_append_left _ hp, waits_snoc_old hx.1.line.1 hid f (by omega)⟩
      have hNm : (N : Int) ∈ nums (lp ++ [((N : Int), f)]) := by rw [nums_snoc]; simp
      have hle1 : (ready lp).length ≤ N := by
        rw [← hlp]
        unfold ready
        refine Nat.le_trans (List.length_filter_le _ _) ?_
        simp [nums]
      obtain ⟨lb, hlb⟩ : ∃ lb, lp ++ [((N : Int), f)] = lb := ⟨_, rfl⟩
      rw [hlb] at hy hrs hmem hNm hlk
      have hlb20 : lb.length ≤ 20 := by omega
      have hlp20 : lp.length ≤ 20 := by omega
      have HL := Lib.hid (And.intro hx (And.intro hy (And.intro hrs (And.intro hmem (And.intro hNm hlk)))))
      clear hx hy hap hlk hsm hsm' hn hn' HS hpl hlp htk hid hrs hmem hNm hlb
      go_wp2_with fail
      refine (lkReady_ok wr F C b1 n sm la lp HL.out.1.1 (by omega)).mono ?_
      rintro e w3 ⟨v3, rfl, hf3⟩
      have H3 := Lib.hid (And.intro (HL.out.1.below hf3.below) (And.intro (HL.out.2.1.below hf3.below) hf3.rd))
      obtain ⟨A3, c3, rfl, _⟩ := hf3.rd.ints_slice
      clear hf3
      go_wp2_with fail
      refine (lkReady_ok w3 G C b2 n' sm' la' lb H3.out.2.1.1 (by omega)).mono ?_
      rintro e w4 ⟨v4, rfl, hf4⟩
      have H4 := Lib.hid (And.intro (H3.out.1.below hf4.below) (And.intro (H3.out.2.1.below hf4.below) (And.intro (H3.out.2.2.below hf4.below) hf4.rd)))
      obtain ⟨A4, c4, rfl, _⟩ := hf4.rd.ints_slice
      clear hf4 H3
      go_wp2_with fail
      refine (lkWaits_ok w4 G C b2 n' sm' la' lb (N : Int) H4.out.2.1.1 (by omega) (by unfold I64; omega)).mono ?_
      rintro e w5 ⟨hb5, ⟨h5, _⟩ | ⟨h5, v5, rfl, hf5⟩⟩
      · exact absurd HL.out.2.2.2.2.1 h5
      obtain ⟨A5, c5, rfl, _⟩ := hf5.rd.ints_slice
      have H5 := Lib.hid (And.intro (H4.out.1.below hb5) (And.intro (H4.out.2.1.below hb5) (And.intro (H4.out.2.2.1.below hb5) (H4.out.2.2.2.below hb5))))
      clear hf5 hb5 h5 H4
      obtain ⟨ow, how⟩ : ∃ ow, (waits lb (N : Int)).length = ow := ⟨_, rfl⟩
      obtain ⟨r1, hr1⟩ : ∃ r1, ready lp = r1 := ⟨_, rfl⟩
      obtain ⟨r2, hr2⟩ : ∃ r2, ready lb = r2 := ⟨_, rfl⟩
      obtain ⟨rd, hrd⟩ : ∃ rd, rdyB lb (N : Int) = rd := ⟨_, rfl⟩
      have hr12 := HL.out.2.2.1
      have hNr : ((N : Int) ∈ r2 ↔ rd = true) := by
        rw [← hr2, mem_ready, hrd]
        exact ⟨fun h => h.2, fun h => ⟨HL.out.2.2.2.2.1, h⟩⟩
      have how0 : (ow = 0 ↔ rd = true) := by
        rw [← how, ← hrd, rdyB_waits, List.length_eq_zero_iff]
      rw [hr1, hr2, hrd] at hr12
      rw [hr1] at hle1
      have hrr := H5.out.2.2
      rw [hr1, hr2] at hrr
      have H5b := Lib.hid (And.intro H5.out.1 (And.intro H5.out.2.1 hrr))
      rw [how, hr1, hr2]
      clear how hr1 hr2 hrd H5 hrr
      cases rd with
      | true =>
        obtain rfl : ow = 0 := how0.2 rfl
        have hr2l : r2.length = r1.length + 1 := by rw [hr12]; simp
        have hr2t : r2.take r1.length = r1 := by rw [hr12]; simp
        rw [hr2l]
        have HR := Lib.hid (And.intro hr12 (And.intro hNr (And.intro hr2l hr2t)))
        clear hr12 hNr hr2l hr2t how0
        have hrd2 : Rd w5 (fun _ => True) (.slice A4 (r1.length + 1) c4) (r2.map (Value.int .i64)) := by have := H5b.out.2.2.2; rw [HR.out.2.2.1] at this; exact this
        have hca : r1.length + 1 ≤ c4 := by
          obtain ⟨A', n', c', hv, h1, h2, h3, _⟩ := hrd2
          injection hv with _ e2 e3
          omega
        have hrd3 := Rd.take hrd2 (m := r1.length) (by omega)
        rw [← List.map_take, HR.out.2.2.2] at hrd3
        have HD := Lib.hid (And.intro hrd2 hrd3)
        clear hrd2 hrd3
        go_wp2_with fail
        refine (in_ok w5 _ _ r2 (N : Int) HD.out.1 (by rw [HR.out.2.2.1]; omega)).mono ?_
        rintro e w6 ⟨r, hr, rfl, hb6⟩
        obtain rfl : r = true := hr.2 (HR.out.2.1.2 (by trivial))
        have H6 := Lib.hid (And.intro (H5b.out.1.below hb6) (And.intro (H5b.out.2.1.below hb6) (And.intro (H5b.out.2.2.1.below hb6) (HD.out.2.below hb6))))
        clear hr hb6 H5b HD
        go_wp2_with fail
        refine (ints_ok w6 _ _ _ _ r1 r1 H6.out.2.2.1 H6.out.2.2.2 (by omega)).mono ?_
        rintro e w7 ⟨r, hr, rfl, hb7⟩
        obtain rfl : r = true := hr.2 rfl
        have HS := Lib.hid (show AskR w0 F G C b1 b2 sm sm' la la' lp lb n n' w7 from ⟨H6.out.1.below hb7, H6.out.2.1.below hb7⟩)
        clear hr hb7 H6
        go_wp2_with fail
        go_loopw [13] (fun i w8 => ∃ k : Nat, k ≤ N ∧ i = .int .i64 (k : Int) ∧ AskR w0 F G C b1 b2 sm sm' la la' lp lb n n' w8) (fun i _ => N - (intOf i).toNat)
        case atStart => exact ⟨0, Nat.zero_le _, rfl, HS.out⟩
        case round =>
          obtain ⟨k, hk, rfl, hx8, hy8⟩ := hrel
          rename World => w8
          have H8 := Lib.hid (And.intro hx8 hy8)
          clear hx8 hy8 HS
          by_cases hkN : k < N
          · go_wp2_with fail
            refine (lkWaits_ok w8 F C b1 n sm la lp (k : Int) H8.out.1.1 (by omega) (by unfold I64; omega)).mono ?_
            rintro e w9 ⟨hb9, ⟨h9, _⟩ | ⟨h9, v9, rfl, hf9⟩⟩
            · exact absurd (HL.out.2.2.2.1 k hkN).1 h9
            have H9 := Lib.hid (And.intro (H8.out.1.below hb9) (And.intro (H8.out.2.below hb9) hf9.rd))
            clear hf9 hb9 h9
            go_wp2_with fail
            refine (lkWaits_ok w9 G C b2 n' sm' la' lb (k : Int) H9.out.2.1.1 (by omega) (by unfold I64; omega)).mono ?_
            rintro e w10 ⟨hb10, ⟨h10, _⟩ | ⟨h10, v10, rfl, hf10⟩⟩
            · exact absurd (HL.out.2.2.2.1 k hkN).2.1 h10
            rw [(HL.out.2.2.2.1 k hkN).2.2] at hf10
            have H10 := Lib.hid (And.intro (H9.out.1.below hb10) (And.intro (H9.out.2.1.below hb10) (And.intro (H9.out.2.2.below hb10) hf10.rd)))
            clear hf10 hb10 h10 H9
            have hwl : (waits lp (k : Int)).length ≤ 1000000 := by
              have : (waits lp (k : Int)).length ≤ lp.length := by
                unfold waits
                refine Nat.le_trans (List.length_filter_le _ _) ?_
                simp [nums]
              omega
            go_wp2_with fail
            refine (ints_ok w10 _ _ v9 v10 _ _ H10.out.2.2.1 H10.out.2.2.2 hwl).mono ?_
            rintro e w11 ⟨r, hr, rfl, hb11⟩
            obtain rfl : r = true := hr.2 rfl
            have H11 := Lib.hid (And.intro (H10.out.1.below hb11) (H10.out.2.1.below hb11))
            clear hr hb11 H10 hwl
            go_wp2_with fail
            go_roundw
            case rel => exact ⟨k + 1, by omega, by go_num, H11.out.1, H11.out.2⟩
            case measure => simp [intOf]; omega
          · have hkN' : k = N := by omega
            subst hkN'
            have hlen := HL.out.2.2.2.2.2
            have HLEN := Lib.hid hlen
            clear hlen
            go_wp2_with fail
            refine (lkLen_ok w8 G C b2 n' sm' la' lb H8.out.2.1).mono ?_
            rintro e w9 ⟨rfl, rfl⟩
            rw [HLEN.out]
            have HB8 := Lib.hid H8.out.1.2.2
            go_wp2_with fail
            refine (awake10_ok _).mono ?_
            rintro e wq ⟨rfl, hb⟩
            have HB := Lib.hid (HB8.out.trans (hb.mono HB8.out.size))
            clear hb
            go_wp2_with fail
            go_ret
            exact ⟨rfl, HB.out⟩
      | false =>
        have how1 : ¬ ow = 0 := fun h => by have := how0.1 h; cases this
        have how2 : ¬ ((ow : Int) = 0) := by omega
        have how3 : ((ow : Int) == 0) = false := by simpa using how2
        have hr2l : r2.length = r1.length := by rw [hr12]; simp
        have hr2t : r2.take r1.length = r1 := by rw [hr12]; simp
        rw [hr2l]
        have HR := Lib.hid (And.intro hr12 (And.intro hNr (And.intro hr2l hr2t)))
        clear hr12 hNr hr2l hr2t how0
        have hrd2 : Rd w5 (fun _ => True) (.slice A4 (r1.length) c4) (r2.map (Value.int .i64)) := by have := H5b.out.2.2.2; rw [HR.out.2.2.1] at this; exact this
        have hca : r1.length ≤ c4 := by
          obtain ⟨A', n', c', hv, h1, h2, h3, _⟩ := hrd2
          injection hv with _ e2 e3
          omega
        have hrd3 := Rd.take hrd2 (m := r1.length) (by omega)
        rw [← List.map_take, HR.out.2.2.2] at hrd3
        have HD := Lib.hid (And.intro hrd2 hrd3)
        clear hrd2 hrd3
        go_wp2_with fail
        refine (in_ok w5 _ _ r2 (N : Int) HD.out.1 (by rw [HR.out.2.2.1]; omega)).mono ?_
        rintro e w6 ⟨r, hr, rfl, hb6⟩
        obtain rfl : r = false := Bool.eq_false_iff.2 (fun hh => by have := HR.out.2.1.1 (hr.1 hh); simp at this)
        have H6 := Lib.hid (And.intro (H5b.out.1.below hb6) (And.intro (H5b.out.2.1.below hb6) (And.intro (H5b.out.2.2.1.below hb6) (HD.out.2.below hb6))))
        clear hr hb6 H5b HD
        go_wp2_with fail
        refine (ints_ok w6 _ _ _ _ r1 r1 H6.out.2.2.1 H6.out.2.2.2 (by omega)).mono ?_
        rintro e w7 ⟨r, hr, rfl, hb7⟩
        obtain rfl : r = true := hr.2 rfl
        have HS := Lib.hid (show AskR w0 F G C b1 b2 sm sm' la la' lp lb n n' w7 from ⟨H6.out.1.below hb7, H6.out.2.1.below hb7⟩)
        clear hr hb7 H6
        go_wp2_with fail
        go_loopw [13] (fun i w8 => ∃ k : Nat, k ≤ N ∧ i = .int .i64 (k : Int) ∧ AskR w0 F G C b1 b2 sm sm' la la' lp lb n n' w8) (fun i _ => N - (intOf i).toNat)
        case atStart => exact ⟨0, Nat.zero_le _, rfl, HS.out⟩
        case round =>
          obtain ⟨k, hk, rfl, hx8, hy8⟩ := hrel
          rename World => w8
          have H8 := Lib.hid (And.intro hx8 hy8)
          clear hx8 hy8 HS
          by_cases hkN : k < N
          · go_wp2_with fail
            refine (lkWaits_ok w8 F C b1 n sm la lp (k : Int) H8.out.1.1 (by omega) (by unfold I64; omega)).mono ?_
            rintro e w9 ⟨hb9, ⟨h9, _⟩ | ⟨h9, v9, rfl, hf9⟩⟩
            · exact absurd (HL.out.2.2.2.1 k hkN).1 h9
            have H9 := Lib.hid (And.intro (H8.out.1.below hb9) (And.intro (H8.out.2.below hb9) hf9.rd))
            clear hf9 hb9 h9
            go_wp2_with fail
            refine (lkWaits_ok w9 G C b2 n' sm' la' lb (k : Int) H9.out.2.1.1 (by omega) (by unfold I64; omega)).mono ?_
            rintro e w10 ⟨hb10, ⟨h10, _⟩ | ⟨h10, v10, rfl, hf10⟩⟩
            · exact absurd (HL.out.2.2.2.1 k hkN).2.1 h10
            rw [(HL.out.2.2.2.1 k hkN).2.2] at hf10
            have H10 := Lib.hid (And.intro (H9.out.1.below hb10) (And.intro (H9.out.2.1.below hb10) (And.intro (H9.out.2.2.below hb10) hf10.rd)))
            clear hf10 hb10 h10 H9
            have hwl : (waits lp (k : Int)).length ≤ 1000000 := by
              have : (waits lp (k : Int)).length ≤ lp.length := by
                unfold waits
                refine Nat.le_trans (List.length_filter_le _ _) ?_
                simp [nums]
              omega
            go_wp2_with fail
            refine (ints_ok w10 _ _ v9 v10 _ _ H10.out.2.2.1 H10.out.2.2.2 hwl).mono ?_
            rintro e w11 ⟨r, hr, rfl, hb11⟩
            obtain rfl : r = true := hr.2 rfl
            have H11 := Lib.hid (And.intro (H10.out.1.below hb11) (H10.out.2.1.below hb11))
            clear hr hb11 H10 hwl
            go_wp2_with fail
            go_roundw
            case rel => exact ⟨k + 1, by omega, by go_num, H11.out.1, H11.out.2⟩
            case measure => simp [intOf]; omega
          · have hkN' : k = N := by omega
            subst hkN'
            have hlen := HL.out.2.2.2.2.2
            have HLEN := Lib.hid hlen
            clear hlen
            go_wp2_with fail
            refine (lkLen_ok w8 G C b2 n' sm' la' lb H8.out.2.1).mono ?_
            rintro e w9 ⟨rfl, rfl⟩
            rw [HLEN.out]
            have HB8 := Lib.hid H8.out.1.2.2
            go_wp2_with fail
            refine (awake10_ok _).mono ?_
            rintro e wq ⟨rfl, hb⟩
            have HB := Lib.hid (HB8.out.trans (hb.mono HB8.out.size))
            clear hb
            go_wp2_with fail
            go_ret
            exact ⟨rfl, HB.out⟩

set_option maxRecDepth 100000 in
theorem locksLast_lifted (os : Os) (started : os.Started) (H : Type) (enc : TypeId × Value → H) :
    ReturnsInHanded {} Try.checked os 15 .any (Rows.locksLastSpec.pre6 enc Try.prog Try.f15 Rows.locksLastRow.domain false) (Rows.locksLastSpec.post enc Try.prog Try.f15 false true false false) := by
  refine law_lifted os started H enc 15 Try.f15 Rows.locksLastSpec (by kernel_rfl) Try.func15 rfl (by kernel_rfl) ?_ ?_
    (ChangeSpec.witness6 (enc := enc) (C := Try.checked) false ⟨#[], #[.slice none 0 0], []⟩ 8 (by kernel_rfl) (by kernel_rfl) (by kernel_rfl) (by kernel_rfl)) ?_
  · rw [Try.params15]
    intro t ht
    simp at ht
    subst ht
    exact ⟨by kernel_rfl, of_decide_eq_true (by kernel_rfl)⟩
  · intro ds hl
    rw [Try.params15] at hl
    match ds, hl with
    | [d1], _ => exact ⟨rfl, rfl, rfl⟩
  · intro W base args ds p hval hA
    rw [Try.params15] at hA hval
    obtain ⟨v0, d0, hargs, rfl, h0⟩ := trodAll_one hA
    subst hargs
    obtain ⟨x0, q0⟩ := open_rows (hval 0 44 v0 rfl rfl) h0
    by_cases hl : x0.length = 0 ∨ 20 < x0.length
    · exact llast_far W v0 x0 q0 hl
    · exact llast_ok W v0 x0 (x0.length - 1) q0 (by omega) (by omega)

theorem locksLast_holds : Rows.LocksLastSaid :=
  OpenClaim.holds_of_wide 15 Try.f15 rfl rfl rfl rfl rfl rfl rfl ⟨rfl, rfl, rfl, rfl, rfl⟩ rfl rfl rfl rfl rfl (by kernel_rfl) Try.func15 (by kernel_rfl)
    (of_decide_eq_true (by kernel_rfl)) (by unfold Func.isWrapper; rw [if_neg (of_decide_eq_false (by kernel_rfl))]; exact ⟨rfl, rfl⟩)
    (fun os started H enc _ => locksLast_lifted os started H enc)

#print axioms locksLast_holds

end Go.Proofs.Ytdmpdlpfanfjoaa
