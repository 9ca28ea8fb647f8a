/- log.Parse. -/
import Derived.Test.YtphponbgbpccaaaReadB
import Derived.Test.YtphponbgbpccaaaLogA
import Derived.Lib.ConvBytes
namespace Go.Proofs.Ytphponbgbpccaaa
open Go.RowKit

theorem below_bytes (w : World) (e : TypeId) (s : ByteArray) : Below w.heap.size w (Lib.bytesWorld w e s) := by
  refine ⟨?_, ?_, ?_, by rw [Lib.bytesWorld_size]; omega, fun k hk => Lib.bytesWorld_at_old w e s k hk⟩
  · unfold Lib.bytesWorld World.freeze; split <;> rfl
  · unfold Lib.bytesWorld World.freeze; split <;> rfl
  · unfold Lib.bytesWorld World.freeze; split <;> rfl

theorem rd_bytes (w : World) (e : TypeId) (t : List UInt8) (h : t.length ≤ 140737488355328) : Rd (Lib.bytesWorld w e ⟨t.toArray⟩) (fun k => k = w.heap.size) (.slice (some ⟨w.heap.size, 0, none⟩) t.length (grownCap w t.length 0 e)) (t.map B8) := by
  have hs : (⟨t.toArray⟩ : ByteArray).size = t.length := by simp [ByteArray.size]
  refine ⟨_, _, _, rfl, by simp, grownCap_ge _ _ _ _, grownCap_le_maxLen _ _ _ _ (by simp only [maxLen]; omega), fun _ => ⟨w.heap.size, 0, rfl, rfl, fun j u hj => ?_⟩⟩
  have hlt : j < t.length := by have := (List.getElem?_eq_some_iff.1 hj).1; simpa using this
  simp [hlt] at hj
  subst hj
  rw [Nat.zero_add, Lib.bytesWorld_cell w e _ j (by rw [hs]; exact hlt)]
  simp [B8, hlt]

def ParseP (all : List UInt8) (w : World) (e : Ending) (w' : World) : Prop :=
  Below w.heap.size w w' ∧ match parseL all with
    | some qs => ∃ b, e = .returned (.tuple #[.pointer (some ⟨b, 0, none⟩), .int .i64 0]) ∧ LogAt w' (fun k => w.heap.size ≤ k) b qs
    | none => ∃ ec : Int, (ec != 0) = true ∧ e = .returned (.tuple #[.pointer none, .int .i64 ec])

set_option maxRecDepth 100000 in
set_option maxHeartbeats 2000000 in
theorem parse_ok (w : World) (F : Nat → Prop) (v : Value) (all : List UInt8) (hr : Rd w F v (all.map B8)) (hl : all.length ≤ 140737488355328) :
    Calls Try.prog 13 #[v] w (ParseP all w) := by
  obtain ⟨A, n, c, rfl, _⟩ := id hr
  have HR := Lib.hid hr
  clear hr
  go_enter Try.func13, Try.ntmps13
  go_wp2_with fail
  go_step3
  go_wp2_with fail
  refine (read_ok w F _ all HR.out hl).mono ?_
  rintro e w1 ⟨b, rfl, hbl1, hrd1⟩
  have hrd1b := hrd1.bound
  have hsz1 := hbl1.size
  clear hrd1
  go_wp2_with fail
  refine (Uint_ok w1 _ b all 0 hrd1b).mono ?_
  rintro e w2 ⟨ho2, hm⟩
  rw [List.drop_zero] at hm
  have hb1 : w.heap.size ≤ b ∧ b < w1.heap.size := by
    obtain ⟨_, _, h, _⟩ := hrd1b
    exact h
  have hbl2 : Below w.heap.size w w2 := hbl1.trans (ho2.belowN hsz1 (fun k hk e => by omega))
  have hsz2 : w1.heap.size ≤ w2.heap.size := ho2.size
  cases hg : rdU all with
  | none =>
    rw [hg] at hm
    obtain ⟨⟨ec, hec, rfl⟩, _⟩ := hm
    have hne : (ec != 0) = true := by rcases hec with rfl | rfl <;> rfl
    have hp : parseL all = none := by simp [parseL, hg]
    have HP := Lib.hid hp
    clear hg hp ho2
    go_wp2_with fail
    try rw [Exit.noGoto_ret]
    go_ret2
    refine ⟨hbl2, ?_⟩
    rw [HP.out]
    exact ⟨11, rfl, rfl⟩
  | some x =>
    obtain ⟨m, r0⟩ := x
    rw [hg] at hm
    obtain ⟨rfl, p0, hr0, _, hrd2⟩ := hm
    have hm63 := (rdU_inv hg).2
    have hp : parseL all = whole (rdTs m [] r0) := by simp [parseL, hg]
    have HP := Lib.hid (And.intro hp hr0)
    clear hg hp ho2 hr0
    go_wp2_with fail
    go_step3
    go_wp2_with fail
    go_loopw [6, 21] (fun e i wr => ∃ (k : Nat) (acc : List (List UInt8)) (p' : Nat), k ≤ m ∧ e = .int .i64 0 ∧ i = .int .i64 k ∧ rdTs m [] r0 = rdTs (m - k) acc (all.drop p') ∧ acc.length ≤ 1024 ∧
        RdrAt wr (fun k => w.heap.size ≤ k ∧ k < w1.heap.size) b all p' ∧ LogAt wr (fun j => w2.heap.size ≤ j) w2.heap.size acc ∧ Below w.heap.size w wr ∧ w2.heap.size ≤ wr.heap.size) (fun _ i _ => m - (intOf i).toNat)
    case atStart =>
      refine ⟨0, [], p0, Nat.zero_le _, rfl, rfl, by rw [HP.out.2]; rfl, by simp, hrd2.below ((Below.refl _ _).alloc (Nat.le_refl _) _), ?_, hbl2.alloc hbl2.size _, by simp⟩
      exact ⟨.slice none 0 0, [], heap_alloc_new _ _, Nat.le_refl _, World.ownsRow_nil _ _ _ _, fun g hg => by simp [Value.ownBlock] at hg, fun i p hp => by simp at hp⟩
    case round =>
      obtain ⟨k, acc, p', hk, rfl, rfl, hts, hacc, hrd, hlog, hbl, hszr⟩ := hrel
      by_cases hlt : k < m
      · have ests : m - k = (m - (k + 1)) + 1 := by omega
        rw [ests, rdTs] at hts
        have HTS := Lib.hid hts
        clear hts ests
        go_wp2_with fail
        refine (Text_ok wr _ b all p' 8192 hrd (by omega)).mono ?_
        rintro e w3 ⟨ho3, hm3⟩
        have hlog3 := hlog.only ho3 (fun j hj e => by omega)
        have hbl3 : Below w.heap.size w w3 := hbl.trans (ho3.belowN hbl.size (fun j hj e => by omega))
        have hsz3 := ho3.size
        cases ht : rdT 8192 (all.drop p') with
        | none =>
          rw [ht] at hm3
          obtain ⟨⟨ec, hec, rfl⟩, _⟩ := hm3
          have hp : parseL all = none := by rw [HP.out.1, HTS.out, ht]; rfl
          have HPN := Lib.hid hp
          have hne : (ec != 0) = true := by rcases hec with rfl | rfl | rfl <;> rfl
          clear ht hp
          by_cases h23 : ec = 23
          · subst h23
            go_wp2_with fail
            try rw [Exit.noGoto_ret]
            go_ret2
            refine ⟨hbl3, ?_⟩
            rw [HPN.out]
            exact ⟨23, rfl, rfl⟩
          · have hne2 : (ec != 23) = true := by rcases hec with rfl | rfl | rfl <;> first | rfl | omega
            go_wp2_with fail
            try rw [Exit.noGoto_ret]
            go_ret2
            refine ⟨hbl3, ?_⟩
            rw [HPN.out]
            exact ⟨11, rfl, rfl⟩
        | some y =>
          obtain ⟨t, rest⟩ := y
          rw [ht] at hm3
          obtain ⟨rfl, p2, hrest, _, hrd3⟩ := hm3
          have htl := (rdT_inv ht).2
          have HT := Lib.hid (And.intro ht hrest)
          clear ht hrest
          have hcv := fun W : World => Lib.run_convert_string_bytes (P := Try.prog) W 9 29 5 ⟨t.toArray⟩ Try.underlying9 Try.underlying29 Try.underlying5
          go_wp2_with fail
          have hblb := below_bytes w3 5 ⟨t.toArray⟩
          have hrdb := rd_bytes w3 5 t (by omega)
          have hszb := hblb.size
          generalize Lib.bytesWorld w3 5 ⟨t.toArray⟩ = w4 at *
          generalize grownCap w3 t.length 0 5 = gc at *
          clear hcv
          by_cases hfull : acc.length < 1024
          · refine (append_ok w4 _ _ acc (hlog3.below hblb) hfull _ _ t.length gc t hrdb htl).mono ?_
            rintro e w5 ⟨rfl, ho5, F5, hlog5, hF5⟩
            have hrd5 := (hrd3.below hblb).only ho5 (fun j hj e => by omega)
            have hlog5' : LogAt w5 (fun j => w2.heap.size ≤ j) w2.heap.size (acc ++ [t]) := hlog5.mono (fun j hj => by rcases hF5 j hj with h | h <;> omega)
            have hbl5 : Below w.heap.size w w5 := (hbl3.trans (hblb.mono (by have := hbl3.size; omega))).trans (ho5.belowN (by have := hbl3.size; omega) (fun j hj e => by have := hbl2.size; omega))
            have hsz5 := ho5.size
            have hts2 : rdTs m [] r0 = rdTs (m - (k + 1)) (acc ++ [t]) (all.drop p2) := by rw [HTS.out, HT.out.1]; simp only []; rw [if_pos hfull, HT.out.2]
            have H5 := Lib.hid (And.intro hrd5 (And.intro hlog5' (And.intro hbl5 hts2)))
            clear hrd5 hlog5' hbl5 hts2 hlog5
            go_wp2_with fail
            go_roundw
            case rel => exact ⟨k + 1, acc ++ [t], p2, by omega, rfl, by go_num, H5.out.2.2.2, by simp; omega, H5.out.1, H5.out.2.1, H5.out.2.2.1, by omega⟩
            case measure => simp [intOf]; omega
          · refine (append_full w4 _ _ acc (hlog3.below hblb) (by omega) _ t.length gc htl).mono ?_
            rintro e w5 ⟨rfl, rfl⟩
            have hp : parseL all = none := by
              rw [HP.out.1, HTS.out, HT.out.1]
              simp only []
              rw [if_neg hfull]
              rfl
            have HPN := Lib.hid hp
            have hbl5 : Below w.heap.size w w4 := hbl3.trans (hblb.mono (by have := hbl3.size; omega))
            clear hp
            go_wp2_with fail
            try rw [Exit.noGoto_ret]
            go_ret2
            refine ⟨hbl5, ?_⟩
            rw [HPN.out]
            exact ⟨16, rfl, rfl⟩
      · obtain rfl : k = m := by omega
        rw [Nat.sub_self, rdTs] at hts
        have HTS := Lib.hid hts
        clear hts
        have hpl : p' ≤ all.length := by
          obtain ⟨_, _, _, h, _⟩ := hrd
          exact h
        go_wp2_with fail
        refine (left_ok wr _ b all p' hrd).mono ?_
        rintro e w3 ⟨rfl, ho3⟩
        have hbl3 : Below w.heap.size w w3 := hbl.trans (ho3.belowN hbl.size (fun j hj e => e))
        have hlog3 := hlog.only ho3 (fun _ _ => id)
        by_cases hend : p' = all.length
        · have hz : all.length - p' = 0 := by omega
          rw [hz]
          have hp : parseL all = some acc := by
            rw [HP.out.1, HTS.out, hend]
            simp [whole]
          have HPN := Lib.hid hp
          clear hz hp
          go_wp2_with fail
          try rw [Exit.noGoto_ret]
          go_ret2
          refine ⟨hbl3, ?_⟩
          rw [HPN.out]
          exact ⟨_, rfl, hlog3.mono (fun j hj => by have := hbl2.size; omega)⟩
        · have hz : 0 < all.length - p' := by omega
          generalize all.length - p' = lf at *
          have hp : parseL all = none := by
            rw [HP.out.1, HTS.out]
            have : all.drop p' ≠ [] := by
              intro h
              have := congrArg List.length h
              simp at this
              omega
            cases hd : all.drop p' with
            | nil => exact absurd hd this
            | cons _ _ => rfl
          have HPN := Lib.hid hp
          clear hp
          go_wp2_with fail
          try rw [Exit.noGoto_ret]
          go_ret2
          refine ⟨hbl3, ?_⟩
          rw [HPN.out]
          exact ⟨11, rfl, rfl⟩
end Go.Proofs.Ytphponbgbpccaaa
