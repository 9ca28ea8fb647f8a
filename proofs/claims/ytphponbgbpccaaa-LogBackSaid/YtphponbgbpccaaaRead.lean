/- The reader in memory ('RdrAt'): groups, Uint, Text, Left. -/
import Derived.Test.YtphponbgbpccaaaWrite
namespace Go.Proofs.Ytphponbgbpccaaa
open Go.RowKit

/-- A reader in memory, behind pos bytes of all. -/
def RdrAt (w : World) (F : Nat → Prop) (b : Nat) (all : List UInt8) (pos : Nat) : Prop :=
  ∃ v, w.heap[b]? = some (.cells #[v, .int .i64 pos] 60 (0, 0)) ∧ F b ∧ pos ≤ all.length ∧ w.ownsRow 0 5 1 v all.length (all.map B8) ∧ (∀ g, v.ownBlock = some g → F g ∧ g ≠ b)

section
variable {w w' : World} {F S : Nat → Prop} {b : Nat} {all : List UInt8} {pos : Nat}
theorem RdrAt.only (h : RdrAt w F b all pos) (ho : Only S w w') (hd : ∀ k, F k → ¬ S k) : RdrAt w' F b all pos := by
  obtain ⟨v, h1, h2, h3, h4, h5⟩ := h
  exact ⟨v, ho.heap h1 (hd b h2), h2, h3, own_only h4 ho (fun g hg => hd g (h5 g hg).1), h5⟩
theorem RdrAt.below (h : RdrAt w F b all pos) (hb : Below w.heap.size w w') : RdrAt w' F b all pos := h.only (Only.of_below hb fun _ => False) (fun _ _ => id)
theorem RdrAt.bound (h : RdrAt w F b all pos) : RdrAt w (fun k => F k ∧ k < w.heap.size) b all pos := by
  obtain ⟨v, h1, h2, h3, h4, h5⟩ := h
  exact ⟨v, h1, ⟨h2, (Array.getElem?_eq_some_iff.1 h1).1⟩, h3, h4, fun g hg => ⟨⟨(h5 g hg).1, (h4.lt g hg).2⟩, (h5 g hg).2⟩⟩
theorem RdrAt.set (h : RdrAt w F b all pos) (p' : Nat) (hp : p' ≤ all.length) : RdrAt (w.setCell ⟨b, 1, none⟩ (.int .i64 p')) F b all p' := by
  obtain ⟨v, h1, h2, h3, h4, h5⟩ := h
  refine ⟨v, ?_, h2, hp, own_only h4 (Only.set1 w b 1 _) (fun g hg e => (h5 g hg).2 e), h5⟩
  simp [World.setCell, Array.getElem?_modify, h1]
theorem RdrAt.at_ (h : RdrAt w F b all pos) : ∃ A c, w.cell? ⟨b, 0, none⟩ = some (.slice A all.length c) ∧ w.cell? ⟨b, 1, none⟩ = some (.int .i64 pos) ∧ w.frozen? ⟨b, 1, none⟩ = false ∧ b < w.heap.size ∧ pos ≤ all.length ∧ all.length ≤ c ∧ c ≤ maxLen ∧
    ∀ i x, all[i]? = some x → ∃ g, A = some ⟨g, 0, none⟩ ∧ w.cell? ⟨g, i, none⟩ = some (B8 x) := by
  obtain ⟨v, h1, h2, h3, h4, h5⟩ := h
  obtain ⟨A, c, rfl⟩ := ownsRow_slice h4
  obtain ⟨A', n', c', he, hl, hc, hm, hx⟩ := Rd.of_own (F := fun _ => True) h4 (fun _ _ => trivial)
  injection he with e1 e2 e3
  subst e1 e2 e3
  refine ⟨A, c, by simp [World.cell?, h1], by simp [World.cell?, h1], by simp [World.frozen?, h1], (Array.getElem?_eq_some_iff.1 h1).1, h3, hc, hm, fun i x hi => ?_⟩
  have hlt := (List.getElem?_eq_some_iff.1 hi).1
  obtain ⟨g, cap, hv, _, _⟩ := h4.form (by omega)
  injection hv with e1 _ _
  subst e1
  refine ⟨g, rfl, ?_⟩
  rw [h4.cellAt i (by omega)]
  simp [hi]
end

theorem drewN_only {w w' : World} {n : Nat} (h : w.drewN n = w') : Only (fun _ => False) w w' := by rw [← h]; exact (Only.refl _ _).drewN _

def GroupsP (F : Nat → Prop) (b : Nat) (all : List UInt8) (pos : Nat) (w : World) (e : Ending) (w' : World) : Prop :=
  Only (fun k => k = b) w w' ∧ match rdG 0 0 (all.drop pos) with
    | some (n, rest) => e = .returned (.tuple #[.int .u64 n, .int .i64 0]) ∧ ∃ p', rest = all.drop p' ∧ pos ≤ p' ∧ RdrAt w' F b all p'
    | none => e = .returned (.tuple #[.int .u64 0, .int .i64 11]) ∧ ∃ p', RdrAt w' F b all p'

theorem or_val {acc d k : Nat} (hk : k ≤ 9) (ha : acc < 128 ^ k) (hd : d * 128 ^ k < 18446744073709551616) :
    IntKind.u64.wrap ((d : Int) * 2 ^ (7 * k)) = ((d * 128 ^ k : Nat) : Int) ∧ bits .or .u64 (acc : Int) ((d * 128 ^ k : Nat) : Int) = ((acc + d * 128 ^ k : Nat) : Int) := by
  have e : (2 : Nat) ^ (7 * k) = 128 ^ k := by rw [Nat.pow_mul]
  have ei : ((d : Int) * 2 ^ (7 * k)) = ((d * 128 ^ k : Nat) : Int) := by
    rw [← e]
    push_cast
    rfl
  have ha2 : acc < 18446744073709551616 := by
    have : (128 : Nat) ^ k ≤ 128 ^ 9 := Nat.pow_le_pow_right (by decide) hk
    have h9 : (128 : Nat) ^ 9 = 9223372036854775808 := by decide
    omega
  constructor
  · rw [ei, IntKind.wrap_u64]
    omega
  · rw [u64_or_nat acc _ ha2 hd, Nat.or_comm, nat_join (7 * k) (d * 128 ^ k) acc (by rw [e]; exact Nat.mul_mod_left _ _) (by rw [e]; exact ha), Nat.add_comm]

theorem rdG_cons {all : List UInt8} {p k acc : Nat} {x : UInt8} (h : all[p]? = some x) : rdG k acc (all.drop p) = if k = 9 ∧ 1 < x.toNat then none else if 128 ≤ x.toNat then rdG (k + 1) (acc + (x.toNat - 128) * 128 ^ k) (all.drop (p + 1))
    else if x.toNat = 0 ∧ 0 < k then none else some (acc + x.toNat * 128 ^ k, all.drop (p + 1)) := by
  have hlt := (List.getElem?_eq_some_iff.1 h).1
  have hx : all[p] = x := (List.getElem?_eq_some_iff.1 h).2
  rw [List.drop_eq_getElem_cons hlt, hx]
  rfl

set_option maxRecDepth 100000 in
set_option maxHeartbeats 4000000 in
theorem rgroups_ok (w : World) (F : Nat → Prop) (b : Nat) (all : List UInt8) (pos : Nat) (h : RdrAt w F b all pos) :
    Calls Try.prog 33 #[.pointer (some ⟨b, 0, none⟩)] w (GroupsP F b all pos w) := by
  have H := Lib.hid h
  clear h
  go_enter Try.func33, Try.ntmps33
  go_wp2_with fail
  go_step3
  go_wp2_with fail
  go_step3
  go_wp2_with fail
  go_loopw [4, 5] (fun n s wr => ∃ k acc : Nat, k ≤ 9 ∧ acc < 128 ^ k ∧ n = .int .u64 acc ∧ s = .int .i64 (7 * k : Nat) ∧ rdG 0 0 (all.drop pos) = rdG k acc (all.drop (pos + k)) ∧ RdrAt wr F b all (pos + k) ∧ Only (fun j => j = b) w wr)
    (fun _ s _ => (70 - intOf s).toNat)
  case atStart => exact ⟨0, 0, by omega, by simp, rfl, rfl, rfl, H.out, Only.refl _ _⟩
  case round =>
    obtain ⟨k, acc, hk, hacc, rfl, rfl, hrd, hr, ho⟩ := hrel
    have HR := Lib.hid (And.intro hr (And.intro hrd (And.intro ho hacc)))
    obtain ⟨A, c, hc0, hc1, hf1, hb, hpl, hcl, hcm, hcells⟩ := hr.at_
    have HC := Lib.hid hcells
    unfold maxLen at hcm
    clear hr hrd ho hcells hacc
    generalize hp : pos + k = p at *
    have HP := Lib.hid hp
    clear hp
    by_cases hlt : p < all.length
    · obtain ⟨x, hx⟩ : ∃ x, all[p]? = some x := ⟨_, List.getElem?_eq_getElem hlt⟩
      obtain ⟨g, rfl, hcx⟩ := HC.out p x hx
      have i1 : (0 : Int) ≤ (p : Int) := by omega
      have i2 : (p : Int) < (all.length : Int) := by omega
      have hcx' : wr.cell? ⟨g, p, none⟩ = some (.int .u8 (x.toNat : Int)) := hcx
      have HX := Lib.hid (And.intro (rdG_cons (k := k) (acc := acc) hx) x.toNat_lt)
      clear hx hcx
      generalize hxn : x.toNat = xn at *
      clear hxn
      have hx256 : xn < 256 := HX.out.2
      go_wp2_with fail
      go_quiet (fail)
      obtain ⟨w1, hw1⟩ : ∃ w1, wr.drewN nq = w1 := ⟨_, rfl⟩
      rw [hw1]
      have hq1 := drewN_only hw1
      have d0 := hq1.cell hc0 id
      have d1 := hq1.cell hc1 id
      have dx := hq1.cell hcx' id
      have dz : w1.frozen? ⟨b, 1, none⟩ = false := by rw [← hw1]; exact hf1
      clear hw1
      go_wp2_with fail
      go_quiet (fail)
      obtain ⟨w2, hw2⟩ : ∃ w2, w1.drewN nq = w2 := ⟨_, rfl⟩
      rw [hw2]
      have hq2 := drewN_only hw2
      have f1 := hq2.cell d1 id
      have fz : w2.frozen? ⟨b, 1, none⟩ = false := by rw [← hw2]; exact dz
      have ho2 : Only (fun _ => False) wr w2 := hq1.trans hq2 (fun _ _ h => h)
      have hr2 := (HR.out.1.only ho2 (fun _ _ => id)).set (p + 1) (by omega)
      have hoo : Only (fun j => j = b) w (w2.setCell ⟨b, 1, none⟩ (.int .i64 ((p + 1 : Nat) : Int))) :=
        HR.out.2.2.1.trans ((Only.mono (T := fun j => j = b) ho2 (fun _ _ h => h.elim)).setCell (p := ⟨b, 1, none⟩) (fun _ => rfl) _) (fun _ _ h => h)
      have ecast : ((p + 1 : Nat) : Int) = (p : Int) + 1 := by omega
      rw [ecast] at hr2 hoo
      have HS := Lib.hid (And.intro hr2 hoo)
      clear hw2 hq1 hq2 d0 d1 dx dz hc0 hc1 hcx' hf1 ho2 hr2 hoo ecast
      by_cases hA : k = 9 ∧ 1 < xn
      · obtain ⟨rfl, hA⟩ := hA
        have hfin : rdG 0 0 (all.drop pos) = none := by rw [HR.out.2.1, HX.out.1, if_pos ⟨rfl, hA⟩]
        have HFIN := Lib.hid hfin
        clear hfin
        go_wp2_with fail
        try rw [Exit.noGoto_ret]
        go_ret2
        refine ⟨HS.out.2, ?_⟩
        rw [HFIN.out]
        exact ⟨rfl, _, HS.out.1⟩
      · by_cases hB : 128 ≤ xn
        · have hk9 : k < 9 := by omega
          have hd : bits .and .u8 (xn : Int) 127 = ((xn - 128 : Nat) : Int) := by
            have := u8_and_nat xn 127 hx256 (by decide)
            rw [show ((127 : Nat) : Int) = 127 from rfl] at this
            rw [this]
            congr 1
            have := Nat.and_two_pow_sub_one_eq_mod xn 7
            simp at this
            rw [this]
            omega
          have hdk : (xn - 128) * 128 ^ k < 128 ^ (k + 1) := by
            rw [Nat.pow_succ, Nat.mul_comm (128 ^ k) 128]
            exact Nat.mul_lt_mul_of_pos_right (by omega) (Nat.pow_pos (by decide))
          have h9 : (128 : Nat) ^ (k + 1) ≤ 9223372036854775808 := by
            have h1 : (128 : Nat) ^ (k + 1) ≤ 128 ^ 9 := Nat.pow_le_pow_right (by decide) (by omega)
            have h2 : (128 : Nat) ^ 9 = 9223372036854775808 := by decide
            omega
          obtain ⟨e3, e4⟩ := or_val (d := xn - 128) hk HR.out.2.2.2 (by omega)
          have hfin : rdG 0 0 (all.drop pos) = rdG (k + 1) (acc + (xn - 128) * 128 ^ k) (all.drop (p + 1)) := by rw [HR.out.2.1, HX.out.1, if_neg hA, if_pos hB]
          have hacc2 : acc + (xn - 128) * 128 ^ k < 128 ^ (k + 1) := by
            have := HR.out.2.2.2
            have e1 : (128 : Nat) ^ (k + 1) = 128 * 128 ^ k := by rw [Nat.pow_succ, Nat.mul_comm]
            have e2 : (xn - 128) * 128 ^ k ≤ 127 * 128 ^ k := Nat.mul_le_mul_right _ (by omega)
            omega
          have e2 : IntKind.u64.wrap ((xn - 128 : Nat) : Int) = ((xn - 128 : Nat) : Int) := by rw [IntKind.wrap_u64]; omega
          generalize (xn - 128) * 128 ^ k = m at *
          generalize hacc' : acc + m = acc' at *
          have HFIN := Lib.hid (And.intro hfin hacc2)
          generalize xn - 128 = d at *
          clear hfin hacc2 hacc' hdk h9
          go_wp2_with fail
          go_roundw
          case rel =>
            refine ⟨k + 1, acc', by omega, HFIN.out.2, rfl, by simp; omega, ?_, ?_, HS.out.2⟩
            · rw [HFIN.out.1, ← HP.out, Nat.add_assoc]
            · rw [← Nat.add_assoc, HP.out]; exact HS.out.1
          case measure => simp [intOf]; omega
        · by_cases hC : xn = 0 ∧ 0 < k
          · have hfin : rdG 0 0 (all.drop pos) = none := by rw [HR.out.2.1, HX.out.1, if_neg hA, if_neg hB, if_pos hC]
            obtain ⟨rfl, hk0⟩ := hC
            have HFIN := Lib.hid hfin
            clear hfin
            by_cases hk9 : k = 9
            · subst hk9
              go_wp2_with fail
              try rw [Exit.noGoto_ret]
              go_ret2
              refine ⟨HS.out.2, ?_⟩
              rw [HFIN.out]
              exact ⟨rfl, _, HS.out.1⟩
            · go_wp2_with fail
              try rw [Exit.noGoto_ret]
              go_ret2
              refine ⟨HS.out.2, ?_⟩
              rw [HFIN.out]
              exact ⟨rfl, _, HS.out.1⟩
          · have hxk : xn * 128 ^ k < 18446744073709551616 := by
              by_cases hk9 : k = 9
              · subst hk9
                have h2 : (128 : Nat) ^ 9 = 9223372036854775808 := by decide
                rw [h2]
                omega
              · have h1 : (128 : Nat) ^ (k + 1) ≤ 128 ^ 9 := Nat.pow_le_pow_right (by decide) (by omega)
                have h2 : (128 : Nat) ^ 9 = 9223372036854775808 := by decide
                have e1 : (128 : Nat) ^ (k + 1) = 128 * 128 ^ k := by rw [Nat.pow_succ, Nat.mul_comm]
                have e2 : xn * 128 ^ k ≤ 127 * 128 ^ k := Nat.mul_le_mul_right _ (by omega)
                omega
            obtain ⟨e3, e4⟩ := or_val (d := xn) hk HR.out.2.2.2 hxk
            have hfin : rdG 0 0 (all.drop pos) = some (acc + xn * 128 ^ k, all.drop (p + 1)) := by rw [HR.out.2.1, HX.out.1, if_neg hA, if_neg hB, if_neg hC]
            have HFIN := Lib.hid hfin
            have HE := Lib.hid (And.intro e3 e4)
            clear hfin e3 e4 hxk
            by_cases hk9 : k = 9
            · subst hk9
              have hx1 : xn = 1 := by omega
              subst hx1
              have e5 : bits .or .u64 (acc : Int) 9223372036854775808 = ((acc + 1 * 128 ^ 9 : Nat) : Int) := HE.out.2
              generalize acc + 1 * 128 ^ 9 = v at *
              go_wp2_with fail
              try rw [Exit.noGoto_ret]
              go_ret2
              refine ⟨HS.out.2, ?_⟩
              rw [HFIN.out]
              exact ⟨rfl, p + 1, rfl, by have := HP.out; omega, HS.out.1⟩
            · by_cases hx0 : xn = 0
              · obtain rfl : k = 0 := by omega
                subst hx0
                have ha := HR.out.2.2.2
                simp at ha
                subst ha
                have e5 : bits .or .u64 0 0 = 0 := by decide
                go_wp2_with fail
                try rw [Exit.noGoto_ret]
                go_ret2
                refine ⟨HS.out.2, ?_⟩
                rw [HFIN.out]
                exact ⟨by simp, p + 1, rfl, by have := HP.out; omega, HS.out.1⟩
              · have e3 := HE.out.1
                have e4 := HE.out.2
                clear HE HX
                generalize xn * 128 ^ k = m at *
                generalize acc + m = v at *
                go_wp2_with fail
                try rw [Exit.noGoto_ret]
                go_ret2
                refine ⟨HS.out.2, ?_⟩
                rw [HFIN.out]
                exact ⟨rfl, p + 1, rfl, by have := HP.out; omega, HS.out.1⟩
    · obtain rfl : p = all.length := by omega
      have hfin : rdG 0 0 (all.drop pos) = none := by rw [HR.out.2.1]; simp [rdG]
      have HFIN := Lib.hid hfin
      clear hfin
      have i2 : decide ((all.length : Int) < (all.length : Int)) = false := by simp
      go_wp2_with fail
      go_quiet (fail)
      obtain ⟨w1, hw1⟩ : ∃ w1, wr.drewN nq = w1 := ⟨_, rfl⟩
      rw [hw1]
      have hq1 := drewN_only hw1
      have hr1 := HR.out.1.only hq1 (fun _ _ => id)
      have ho1 := HR.out.2.2.1.trans hq1 (fun _ _ h => h.elim)
      have HS := Lib.hid (And.intro hr1 ho1)
      clear hw1 hr1 ho1 hq1
      go_wp2_with fail
      try rw [Exit.noGoto_ret]
      go_ret2
      refine ⟨HS.out.2, ?_⟩
      rw [HFIN.out]
      exact ⟨rfl, _, HS.out.1⟩
end Go.Proofs.Ytphponbgbpccaaa
