/- PLAIN: an entry's bytes and what is read out of them. -/
import Derived.Test.YtihjcfifakcpgaaGreatDoorFrD
import Derived.Test.YtihjcfifakcpgaaGreatDoorFrP
namespace Go.Proofs.YtihjcfifakcpgaaGreatDoor
set_option maxRecDepth 100000
open Go.RowKit

theorem rdNs_many (rd : List UInt8 → Option (Int × List UInt8)) : ∀ (k : Nat) (bs : List UInt8), rdNs rd k bs = rdMany rd k bs
  | 0, bs => rfl
  | k + 1, bs => by
    rw [rdNs, rdMany, rdNs_many rd k bs]
    cases rdMany rd k bs with
    | none => rfl
    | some x =>
      obtain ⟨a, q⟩ := x
      simp only
      cases rd q <;> rfl
theorem rdMany_enc {α : Type} {rd : List UInt8 → Option (α × List UInt8)} {e : α → List UInt8} {P : α → Prop} (hrd : ∀ x r, P x → rd (e x ++ r) = some (x, r)) : ∀ (k : Nat) (xs : List α) (r : List UInt8), xs.length = k → (∀ x ∈ xs, P x) → rdMany rd k (xs.flatMap e ++ r) = some (xs, r)
  | 0, xs, r, h, _ => by
    obtain rfl := List.length_eq_zero_iff.1 h
    simp [rdMany]
  | k + 1, xs, r, h, hP => by
    have hne : xs ≠ [] := fun e => by rw [e] at h; simp at h
    obtain ⟨ys, y, rfl⟩ : ∃ ys y, xs = ys ++ [y] := ⟨xs.dropLast, xs.getLast hne, (List.dropLast_concat_getLast hne).symm⟩
    have hl : ys.length = k := by simpa using h
    rw [rdMany, List.flatMap_append, List.append_assoc, rdMany_enc hrd k ys _ hl (fun x hx => hP x (by simp [hx]))]
    simp only [List.flatMap_cons, List.flatMap_nil, List.append_nil]
    rw [hrd y r (hP y (by simp))]
theorem rdMany_inv {α : Type} {rd : List UInt8 → Option (α × List UInt8)} {e : α → List UInt8} (hinv : ∀ bs x r, rd bs = some (x, r) → bs = e x ++ r) : ∀ (k : Nat) (bs : List UInt8) (xs : List α) (r : List UInt8), rdMany rd k bs = some (xs, r) → bs = xs.flatMap e ++ r
  | 0, bs, xs, r, h => by simp [rdMany] at h; obtain ⟨h1, h2⟩ := h; subst h1 h2; simp
  | k + 1, bs, xs, r, h => by
    rw [rdMany] at h
    cases hk : rdMany rd k bs with
    | none => rw [hk] at h; simp at h
    | some x =>
      obtain ⟨ms, q⟩ := x
      rw [hk] at h
      simp only at h
      cases hq : rd q with
      | none => rw [hq] at h; simp at h
      | some y =>
        obtain ⟨m, q'⟩ := y
        rw [hq] at h
        simp at h
        obtain ⟨rfl, rfl⟩ := h
        rw [rdMany_inv hinv k bs ms q hk, hinv q m q' hq]
        simp
def UOk (n : Int) : Prop := 0 ≤ n ∧ n ≤ 9223372036854775807
def IOk (n : Int) : Prop := -9223372036854775808 ≤ n ∧ n ≤ 9223372036854775807
theorem rdUI_enc (n : Int) (r : List UInt8) (h : UOk n) : rdUI (leb n.toNat ++ r) = some (n, r) := by
  obtain ⟨h0, h1⟩ := h
  unfold rdUI
  rw [rdU_leb _ _ (by omega)]
  simp
  omega
theorem rdUI_inv (bs : List UInt8) (n : Int) (r : List UInt8) (h : rdUI bs = some (n, r)) : bs = leb n.toNat ++ r := by
  unfold rdUI at h
  cases hu : rdU bs with
  | none => rw [hu] at h; simp at h
  | some x =>
    obtain ⟨m, q⟩ := x
    rw [hu] at h
    simp at h
    obtain ⟨rfl, rfl⟩ := h
    simpa using (rdU_inv hu).1
theorem rdI_enc (n : Int) (r : List UInt8) (h : IOk n) : rdI (leb (zig n) ++ r) = some (n, r) := by
  have hz := zig_lt h.1 h.2
  have := rdG_leb 9 0 0 (zig n) r rfl (by simpa using hz) (.inl rfl)
  simp only [Nat.zero_add, Nat.pow_zero, Nat.mul_one] at this
  unfold rdI leb
  rw [this]
  simp [zag_zig]
theorem rdI_inv (bs : List UInt8) (n : Int) (r : List UInt8) (h : rdI bs = some (n, r)) : bs = leb (zig n) ++ r := by
  unfold rdI at h
  cases hu : rdG 0 0 bs with
  | none => rw [hu] at h; simp at h
  | some x =>
    obtain ⟨m, q⟩ := x
    rw [hu] at h
    simp at h
    obtain ⟨rfl, rfl⟩ := h
    obtain ⟨k, hk, he, _, _⟩ := rdG_inv bs 0 0 m q (by omega) hu
    simp at hk
    subst hk
    rw [zig_zag]
    simpa [leb] using he
theorem rdNsU (ns : List Int) (k : Nat) (r : List UInt8) (hk : ns.length = k) (h : ∀ n ∈ ns, UOk n) : rdNs rdUI k (encU ns ++ r) = some (ns, r) := by
  rw [rdNs_many]
  exact rdMany_enc (P := UOk) rdUI_enc k ns r hk h
theorem rdNsI (ns : List Int) (k : Nat) (r : List UInt8) (hk : ns.length = k) (h : ∀ n ∈ ns, IOk n) : rdNs rdI k (encI ns ++ r) = some (ns, r) := by
  rw [rdNs_many]
  exact rdMany_enc (P := IOk) rdI_enc k ns r hk h
theorem rdNsU_inv {k : Nat} {bs : List UInt8} {ns : List Int} {r : List UInt8} (h : rdNs rdUI k bs = some (ns, r)) : bs = encU ns ++ r := by
  rw [rdNs_many] at h
  exact rdMany_inv rdUI_inv k bs ns r h
theorem rdNsI_inv {k : Nat} {bs : List UInt8} {ns : List Int} {r : List UInt8} (h : rdNs rdI k bs = some (ns, r)) : bs = encI ns ++ r := by
  rw [rdNs_many] at h
  exact rdMany_inv rdI_inv k bs ns r h
def OOk (o : POp) : Prop := UOk o.d ∧ UOk o.a ∧ UOk o.b ∧ IOk o.c ∧ UOk o.n
theorem rdOp_enc (o : POp) (r : List UInt8) (h : OOk o) : rdOp (encOp o ++ r) = some (o, r) := by
  obtain ⟨h1, h2, h3, h4, h5⟩ := h
  unfold rdOp encOp
  rw [List.append_assoc, rdNsU [o.d, o.a, o.b] 3 _ rfl (by simp [h1, h2, h3])]
  simp only
  rw [List.append_assoc, rdNsI [o.c] 1 _ rfl (by simp [h4])]
  simp only
  rw [rdNsU [o.n] 1 _ rfl (by simp [h5])]
theorem rdOp_inv (bs : List UInt8) (o : POp) (r : List UInt8) (h : rdOp bs = some (o, r)) : bs = encOp o ++ r := by
  unfold rdOp at h
  split at h
  · rename_i d a b q hg
    split at h
    · rename_i c q2 hg2
      split at h
      · rename_i n q3 hg3
        simp at h
        obtain ⟨rfl, rfl⟩ := h
        rw [rdNsU_inv hg, rdNsI_inv hg2, rdNsU_inv hg3]
        simp [encOp]
      · simp at h
    · simp at h
  · simp at h
def COk (c : Cl) : Prop := IOk c.col ∧ c.key.length ≤ 16 ∧ IOk c.lo ∧ IOk c.hi
theorem rdCl_enc (c : Cl) (r : List UInt8) (h : COk c) : rdCl (encCl c ++ r) = some (c, r) := by
  obtain ⟨h1, h2, h3, h4⟩ := h
  have hm : UOk (markOf c) ∧ markOf c ≤ 1 ∧ decide (markOf c = 1) = c.wr := by
    unfold markOf UOk
    cases c.wr <;> simp
  unfold rdCl encCl
  rw [List.append_assoc, rdNsU [markOf c] 1 _ rfl (by simp [hm.1])]
  simp only
  rw [if_pos hm.2.1, List.append_assoc, rdNsI [c.col] 1 _ rfl (by simp [h1])]
  simp only
  rw [List.append_assoc, show encT c.key = textB c.key from rfl, rdT_text 16 c.key _ h2 (by omega)]
  simp only
  rw [rdNsI [c.lo, c.hi] 2 _ rfl (by simp [h3, h4])]
  simp only [hm.2.2]
theorem rdCl_inv (bs : List UInt8) (c : Cl) (r : List UInt8) (h : rdCl bs = some (c, r)) : bs = encCl c ++ r := by
  unfold rdCl at h
  split at h
  · rename_i mk q hg
    have hmk := (rdNs_all (P := UOk) (fun _ _ _ h => rdUI_fits h) hg) mk (by simp)
    split at h
    · rename_i hm1
      split at h
      · rename_i col q2 hg2
        split at h
        · rename_i key q3 hg3
          split at h
          · rename_i lo hi q4 hg4
            simp at h
            obtain ⟨rfl, rfl⟩ := h
            have hmm : markOf ⟨decide (mk = 1), col, key, lo, hi⟩ = mk := by
              unfold markOf
              unfold UOk at hmk
              by_cases h1 : mk = 1
              · simp [h1]
              · simp [h1]
                omega
            rw [rdNsU_inv hg, rdNsI_inv hg2, (rdT_inv hg3).1, rdNsI_inv hg4, encCl, hmm]
            simp [show encT key = textB key from rfl]
          · simp at h
        · simp at h
      · simp at h
    · simp at h
  · simp at h
theorem rdL_enc {α : Type} {rd : List UInt8 → Option (α × List UInt8)} {e : α → List UInt8} {P : α → Prop} (hrd : ∀ x r, P x → rd (e x ++ r) = some (x, r)) (M : Int) (xs : List α) (r : List UInt8) (hl : (xs.length : Int) ≤ M) (hM : M ≤ 1000) (hP : ∀ x ∈ xs, P x) : rdL rd M (encU [(xs.length : Int)] ++ (xs.flatMap e ++ r)) = some (xs, r) := by
  unfold rdL
  rw [rdNsU [(xs.length : Int)] 1 _ rfl (by simp [UOk]; omega)]
  simp only
  rw [if_pos hl, Int.toNat_natCast, rdMany_enc hrd _ xs r rfl hP]
theorem rdL_inv {α : Type} {rd : List UInt8 → Option (α × List UInt8)} {e : α → List UInt8} (hinv : ∀ bs x r, rd bs = some (x, r) → bs = e x ++ r) {M : Int} {bs : List UInt8} {xs : List α} {r : List UInt8} (h : rdL rd M bs = some (xs, r)) : bs = encU [(xs.length : Int)] ++ (xs.flatMap e ++ r) := by
  unfold rdL at h
  split at h
  · rename_i mk q hg
    have h0 := (rdNs_all (P := UOk) (fun _ _ _ h => rdUI_fits h) hg) mk (by simp)
    split at h
    · have hl := (rdMany_all (P := fun _ => True) (fun _ _ _ _ => trivial) h).2
      have hm : (xs.length : Int) = mk := by unfold UOk at h0; omega
      rw [rdNsU_inv hg, rdMany_inv hinv _ _ _ _ h, hm]
    · simp at h
  · simp at h
/-- An entry that may be written and read again. -/
def EOk (e : FE) : Prop := UOk e.id ∧ ((∀ o ∈ e.ops, OOk o) ∧ e.ops.length ≤ 64) ∧ ((∀ n ∈ e.args, IOk n) ∧ e.args.length ≤ 8) ∧ (∀ c ∈ e.cls, COk c) ∧ e.cls.length ≤ 64
theorem encU_two (a b : Int) (r : List UInt8) : encU [a, b] ++ r = encU [a] ++ (encU [b] ++ r) := by simp [encU]
theorem rdEnt_enc (e : FE) (h : EOk e) : rdEnt (inside e) = some e := by
  obtain ⟨h1, ⟨h2, l2⟩, ⟨h3, l3⟩, h4, l4⟩ := h
  have k4 := rdL_enc (P := COk) rdCl_enc 64 e.cls [] (by omega) (by omega) h4
  rw [List.append_nil] at k4
  unfold rdEnt inside
  rw [encU_two, rdNsU [e.id] 1 _ rfl (by simp [h1])]
  simp only
  rw [rdL_enc (P := OOk) rdOp_enc 64 e.ops _ (by omega) (by omega) h2]
  simp only
  rw [show encI e.args = e.args.flatMap (fun n => leb (zig n)) from rfl, rdL_enc (P := IOk) rdI_enc 8 e.args _ (by omega) (by omega) h3]
  simp only
  rw [k4]
  simp
theorem rdEnt_inv {bs : List UInt8} {e : FE} (h : rdEnt bs = some e) : bs = inside e := by
  unfold rdEnt at h
  split at h
  · rename_i eid q hg
    split at h
    · rename_i ops q2 hg2
      split at h
      · rename_i args q3 hg3
        split at h
        · rename_i cls q4 hg4
          split at h
          · rename_i hq
            simp at h
            subst h hq
            have k4 := rdL_inv rdCl_inv hg4
            rw [List.append_nil] at k4
            rw [rdNsU_inv hg, rdL_inv rdOp_inv hg2, rdL_inv rdI_inv hg3, k4, inside, encU_two]
            rfl
          · simp at h
        · simp at h
      · simp at h
    · simp at h
  · simp at h
end Go.Proofs.YtihjcfifakcpgaaGreatDoor

/- PLAIN: what Check lets through may be written and read again; a sealed text has one inside. -/
namespace Go.Proofs.YtihjcfifakcpgaaGreatDoor
set_option maxRecDepth 100000
open Go.RowKit

theorem good_ok {e : FE} (h : e.Good) (hf : e.fits) : EOk e := by
  refine ⟨⟨h.id0, by have := h.id1; omega⟩, ⟨fun o ho => ?_, h.opl⟩, ⟨fun n hn => ?_, h.arl⟩, fun c hc => ?_, h.cll⟩
  · obtain ⟨h1, h2, h3, h4, h5⟩ := h.opb o ho
    exact ⟨⟨h1.1, by omega⟩, ⟨h2.1, by omega⟩, ⟨h3.1, by omega⟩, ⟨by omega, by omega⟩, ⟨h5.1, by omega⟩⟩
  · have := h.arb n hn
    exact ⟨by omega, by omega⟩
  · obtain ⟨f1, f2, f3, _⟩ := hf.2.2.2 c hc
    have hk : c.key.length ≤ 16 := by
      rcases (h.clo c hc).parts with h | h
      · exact h.2.2.2.2
      · rw [h.2.2.1]; simp
    exact ⟨f1, hk, f2, f3⟩
theorem sealB_inj {xs ys : List UInt8} (h : sealB xs = sealB ys) : xs = ys := by
  unfold sealB at h
  exact (List.append_inj' h (by rw [four_len, four_len])).1
/-- Out of a good entry's sealed bytes only this entry is read. -/
theorem dec_good {e : FE} (h : e.Good) (hf : e.fits) {ys : List UInt8} (hs : sealB (inside e) = sealB ys) : rdEnt ys = some e := by
  rw [← sealB_inj hs]
  exact rdEnt_enc e (good_ok h hf)
/-- Decoding a good entry's bytes. -/
theorem DecP.good {e : FE} (h : e.Good) (hf : e.fits) {w w' : World} {en : Ending} (hd : DecP (sealB (inside e)) w en w') :
    Below w.heap.size w w' ∧ ∃ vo va vc, en = .returned (.tuple #[entV e vo va vc, .int .i64 0]) ∧ EntRd w' (fun k => w.heap.size ≤ k) e vo va vc := by
  obtain ⟨hb, hd⟩ := hd
  refine ⟨hb, ?_⟩
  rcases hd with ⟨ys, x, vo, va, vc, hs, hr, _, he, hent⟩ | ⟨ys, x, hs, hr, hz, _⟩ | ⟨ys, hs, hr, _⟩ | ⟨hn, _⟩
  · have := dec_good h hf hs
    rw [hr] at this
    injection this with this
    subst this
    exact ⟨vo, va, vc, he, hent⟩
  · have := dec_good h hf hs
    rw [hr] at this
    injection this with this
    subst this
    exact absurd (Good.of_form h) hz
  · have := dec_good h hf hs
    rw [hr] at this
    cases this
  · exact absurd rfl (hn (inside e))
/-- What decoding lets through is the very bytes that encoding gives. -/
theorem DecP.bytes {xs : List UInt8} {w w' : World} {en : Ending} {v : Value} (hd : DecP xs w en w') (he : en = .returned (.tuple #[v, .int .i64 0])) :
    ∃ x vo va vc, xs = sealB (inside x) ∧ x.Good ∧ x.fits ∧ v = entV x vo va vc ∧ EntRd w' (fun k => w.heap.size ≤ k) x vo va vc := by
  obtain ⟨_, hd⟩ := hd
  rcases hd with ⟨ys, x, vo, va, vc, hs, hr, hz, he2, hent⟩ | ⟨ys, x, hs, hr, hz, he2⟩ | ⟨ys, hs, hr, he2⟩ | ⟨hn, he2⟩
  · rw [he] at he2
    injection he2 with he2
    injection he2 with he2
    simp at he2
    exact ⟨x, vo, va, vc, by rw [hs, rdEnt_inv hr], entE_zero hz, hent.2.2.2, he2, hent⟩
  · rw [he] at he2
    simp at he2
    exact absurd he2.2.symm hz
  · rw [he] at he2
    simp at he2
  · rw [he] at he2
    simp at he2
    have := he2.2
    split at this <;> simp at this
end Go.Proofs.YtihjcfifakcpgaaGreatDoor

/- PLAIN: a sealed text with one byte turned is no sealed text. -/
namespace Go.Proofs.YtihjcfifakcpgaaGreatDoor
set_option maxRecDepth 100000
open Go.RowKit

theorem set_split : ∀ (m : List UInt8) (i : Nat) (y : UInt8), i < m.length → ∃ p x q, m = p ++ x :: q ∧ m.set i y = p ++ y :: q ∧ m[i]? = some x
  | [], i, y, h => absurd h (by simp)
  | a :: m, 0, y, h => ⟨[], a, m, rfl, rfl, rfl⟩
  | a :: m, i + 1, y, h => by
    obtain ⟨p, x, q, h1, h2, h3⟩ := set_split m i y (by simpa using h)
    exact ⟨a :: p, x, q, by rw [h1]; rfl, by rw [List.set_cons_succ, h2]; rfl, by simpa using h3⟩
theorem turned_ne {m : List UInt8} {i : Nat} {x y : UInt8} (hx : (sealB m)[i]? = some x) (hne : y ≠ x) (ys : List UInt8) : (sealB m).set i y ≠ sealB ys := by
  intro h
  have hi : i < (sealB m).length := (List.getElem?_eq_some_iff.1 hx).1
  unfold sealB at h hx hi
  by_cases hm : i < m.length
  · rw [List.set_append_left i y hm] at h
    obtain ⟨e1, e2⟩ := List.append_inj' h (by rw [four_len, four_len])
    obtain ⟨p, z, q, h1, h2, h3⟩ := set_split m i y hm
    rw [List.getElem?_append_left hm, h3] at hx
    injection hx with hx
    have hc := four_inj (crc_lt _) (crc_lt _) e2
    rw [← e1, h2, h1] at hc
    exact hne ((crc_one p q hc).symm.trans hx)
  · rw [List.set_append_right i y (by omega)] at h
    obtain ⟨e1, e2⟩ := List.append_inj' h (by simp [four_len])
    subst e1
    rw [List.getElem?_append_right (by omega)] at hx
    have h4 : ((four (crc m)).set (i - m.length) y)[i - m.length]? = (four (crc m))[i - m.length]? := by rw [e2]
    rw [hx, List.getElem?_set_self (by simp [four_len] at hi ⊢; omega)] at h4
    injection h4 with h4
    exact hne h4
end Go.Proofs.YtihjcfifakcpgaaGreatDoor

/- Words of law13: bytes that are the same, an entry in a box, Few, none. -/
namespace Go.Proofs.YtihjcfifakcpgaaGreatDoor
set_option maxRecDepth 100000
open Go.RowKit

set_option maxRecDepth 100000 in
set_option maxHeartbeats 400000 in
theorem lawBytes_ok (w : World) (F G : Nat → Prop) (va vb : Value) (xs ys : List UInt8) (ha : Rd w F va (xs.map B8)) (hb : Rd w G vb (ys.map B8)) :
    Calls Tryz.prog 15 #[va, vb] w (BoolP (xs = ys) w) := by
  obtain ⟨A, n, c, rfl, hl, hc, hm, hx⟩ := ha
  obtain ⟨A', n', c', rfl, hl', hc', hm', hx'⟩ := hb
  simp only [List.length_map] at hl hl'
  subst hl hl'
  unfold maxLen at hm hm'
  have HX := Lib.hid hx
  have HX' := Lib.hid hx'
  clear hx hx'
  by_cases hlen : xs.length = ys.length
  · rw [← hlen]
    have HL := Lib.hid hlen
    clear hlen
    go_enter Tryz.func15, Tryz.ntmps15
    go_wp2_with fail
    go_loopw [5] (fun i wr => ∃ k : Nat, k ≤ xs.length ∧ i = .int .i64 (k : Int) ∧ xs.take k = ys.take k ∧ ∃ m, wr = w.drewN m) (fun i _ => xs.length - (intOf i).toNat)
    case atStart => exact ⟨0, Nat.zero_le _, rfl, rfl, 0, rfl⟩
    case round =>
      obtain ⟨k, hk, rfl, heq, m, rfl⟩ := hrel
      have HE := Lib.hid heq
      clear heq
      by_cases hlt : k < xs.length
      · obtain ⟨x, hxk⟩ : ∃ x, xs[k]? = some x := ⟨_, List.getElem?_eq_getElem hlt⟩
        obtain ⟨y, hyk⟩ : ∃ y, ys[k]? = some y := ⟨_, List.getElem?_eq_getElem (by rw [← HL.out]; exact hlt)⟩
        obtain ⟨b, o, rfl, _, hu⟩ := HX.out (by omega)
        obtain ⟨b', o', rfl, _, hu'⟩ := HX'.out (by rw [← HL.out]; omega)
        have c1 : w.cell? ⟨b, o + k, none⟩ = some (.int .u8 (x.toNat : Int)) := hu k (B8 x) (by simp [hxk])
        have c2 : w.cell? ⟨b', o' + k, none⟩ = some (.int .u8 (y.toNat : Int)) := hu' k (B8 y) (by simp [hyk])
        have i1 : (0 : Int) ≤ (k : Int) := by omega
        have i2 : (k : Int) < (xs.length : Int) := by omega
        have HK := Lib.hid (And.intro hxk hyk)
        clear hu hu' HX HX' hxk hyk
        go_wp2_with fail
        by_cases hxy : x = y
        · subst hxy
          go_quiet (fail)
          go_wp2_with fail
          go_roundw
          case rel => exact ⟨k + 1, by omega, by go_num, by rw [List.take_add_one, List.take_add_one, HK.out.1, HK.out.2, HE.out], _, rfl⟩
          case measure => simp [intOf]; omega
        · have hne : ((x.toNat : Int) != (y.toNat : Int)) = true := by
            have : x.toNat ≠ y.toNat := fun h => hxy (UInt8.toNat_inj.1 h)
            simp; omega
          have HN := Lib.hid hxy
          clear hxy
          go_quiet (fail)
          go_wp2_with fail
          go_ret
          refine BoolP.no (fun h => HN.out ?_) (below_drewN (below_drewN (Below.refl _ _) _) _)
          have h1 := HK.out.1
          rw [h, HK.out.2] at h1
          injection h1 with h1
          exact h1.symm
      · obtain rfl : k = xs.length := by omega
        go_wp2_with fail
        go_ret
        refine BoolP.yes ?_ (below_drewN (Below.refl _ _) _)
        have := HE.out
        rw [List.take_length, HL.out, List.take_length] at this
        exact this
  · have hne : ((xs.length : Int) != (ys.length : Int)) = true := by simp; omega
    have HL := Lib.hid hlen
    clear hlen
    go_enter Tryz.func15, Tryz.ntmps15
    go_wp2_with fail
    go_ret
    exact BoolP.no (fun h => HL.out (by rw [h])) (Below.refl _ _)

/-- An entry in a box. -/
def EBx (w : World) (B : Nat) (e : FE) (A1 : Option Addr) (c1 : Nat) (A2 : Option Addr) (c2 : Nat) (A3 : Option Addr) (c3 : Nat) : Prop :=
  w.heap[B]? = some (.cells #[.int .i64 e.id, .slice A1 e.ops.length c1, .slice A2 e.args.length c2, .slice A3 e.cls.length c3] 26 (0, 0)) ∧
    EntRd w (fun _ => True) e (.slice A1 e.ops.length c1) (.slice A2 e.args.length c2) (.slice A3 e.cls.length c3)
section
variable {w w' : World} {B : Nat} {e : FE} {A1 A2 A3 : Option Addr} {c1 c2 c3 : Nat}
theorem EBx.below (h : EBx w B e A1 c1 A2 c2 A3 c3) (hb : Below w.heap.size w w') : EBx w' B e A1 c1 A2 c2 A3 c3 :=
  ⟨(Only.of_below hb (fun _ => False)).heap h.1 (fun h => h), h.2.below hb⟩
theorem EBx.cells (h : EBx w B e A1 c1 A2 c2 A3 c3) : w.cell? ⟨B, 0, none⟩ = some (.int .i64 e.id) ∧ w.cell? ⟨B, 1, none⟩ = some (.slice A1 e.ops.length c1) ∧ w.cell? ⟨B, 2, none⟩ = some (.slice A2 e.args.length c2) ∧ w.cell? ⟨B, 3, none⟩ = some (.slice A3 e.cls.length c3) := by
  obtain ⟨⟨a, b, c, d⟩, _⟩ := blk4 h.1
  exact ⟨a, b, c, d⟩
theorem EBx.lt (h : EBx w B e A1 c1 A2 c2 A3 c3) : B < w.heap.size := (Array.getElem?_eq_some_iff.1 h.1).1
theorem EBx.start (h : EntRd w (fun _ => True) e (.slice A1 e.ops.length c1) (.slice A2 e.args.length c2) (.slice A3 e.cls.length c3)) :
    EBx (w.alloc (.cells #[.int .i64 e.id, .slice A1 e.ops.length c1, .slice A2 e.args.length c2, .slice A3 e.cls.length c3] 26)) w.heap.size e A1 c1 A2 c2 A3 c3 :=
  ⟨heap_alloc_new _ _, h.below (one_box _ _)⟩
/-- What an entry leads to, laid open. -/
theorem EntRd.open_ {G : Nat → Prop} {vo va vc : Value} (h : EntRd w G e vo va vc) : ∃ A1 c1 A2 c2 A3 c3, vo = .slice A1 e.ops.length c1 ∧ va = .slice A2 e.args.length c2 ∧ vc = .slice A3 e.cls.length c3 ∧
    (e.ops.length ≤ maxLen ∧ e.args.length ≤ maxLen ∧ e.cls.length ≤ maxLen) := by
  obtain ⟨A1, c1, rfl, a1, b1⟩ := h.1.slice
  obtain ⟨A2, c2, rfl, a2, b2⟩ := ivs_slice h.2.1
  obtain ⟨A3, c3, rfl, a3, b3⟩ := h.2.2.1.slice
  exact ⟨A1, c1, A2, c2, A3, c3, rfl, rfl, rfl, by omega, by omega, by omega⟩
end
theorem NibTab.of_below {w w' : World} (h : NibTab w) (hb : Below w.heap.size w w') : NibTab w' := h.below hb

/-- Not too great. -/
def FewE (e : FE) : Prop := (∀ c ∈ e.cls, c.key.length ≤ 30) ∧ e.ops.length ≤ 80 ∧ e.args.length ≤ 12 ∧ e.cls.length ≤ 80
/-- Nothing. -/
def NoneE (e : FE) : Prop := e.id = 0 ∧ e.ops.length + e.args.length + e.cls.length = 0

set_option maxRecDepth 100000 in
set_option maxHeartbeats 1000000 in
theorem fewE_ok (w : World) (G : Nat → Prop) (e : FE) (vo va vc : Value) (h : EntRd w G e vo va vc) : Calls Tryz.prog 10 #[entV e vo va vc] w (BoolP (FewE e) w) := by
  obtain ⟨A1, c1, A2, c2, A3, c3, rfl, rfl, rfl, hm1, hm2, hm3⟩ := h.open_
  unfold maxLen at hm1 hm2 hm3
  have hfit := h.2.2.2.2.2.2
  unfold entV
  have hX := EBx.start (h.mono (fun _ _ => trivial))
  have hbb := one_box w (.cells #[.int .i64 e.id, .slice A1 e.ops.length c1, .slice A2 e.args.length c2, .slice A3 e.cls.length c3] 26)
  have HX := Lib.hid hX
  have HB := Lib.hid hbb
  have HF := Lib.hid hfit
  clear hX hbb h hfit
  go_enter Tryz.func10, Tryz.ntmps10
  go_upto_region 2 with fail
  generalize w.alloc (.cells #[.int .i64 e.id, .slice A1 e.ops.length c1, .slice A2 e.args.length c2, .slice A3 e.cls.length c3] 26) = w1 at HX HB ⊢
  obtain ⟨B, hB⟩ : ∃ B, w.heap.size = B := ⟨_, rfl⟩
  rw [hB] at HX ⊢
  have HBQ := Lib.hid hB
  clear hB
  obtain ⟨x0, x1, x2, x3⟩ := HX.out.cells
  go_loop [3] (fun i => ∃ k : Nat, k ≤ e.cls.length ∧ i = .int .i64 (k : Int) ∧ ∀ c ∈ e.cls.take k, c.key.length ≤ 30) (fun i => e.cls.length - (intOf i).toNat)
  case atStart => exact ⟨0, Nat.zero_le _, rfl, by simp⟩
  case round =>
    obtain ⟨k, hk, rfl, hal⟩ := hrel
    by_cases hlt : k < e.cls.length
    · obtain ⟨x, hx⟩ : ∃ x, e.cls[k]? = some x := ⟨_, List.getElem?_eq_getElem hlt⟩
      obtain ⟨b, o, rfl, hFb, y0, y1, y2, y3, y4⟩ := HX.out.2.2.2.1.at_ hx
      have hxk := (HF.out x (List.mem_of_getElem? hx)).2.2.2
      unfold maxLen at hxk
      have HK := Lib.hid (And.intro hx hal)
      clear hx hal y0 y1 y3 y4
      by_cases hkl : x.key.length ≤ 30
      · go_wp2_with fail
        go_round
        case rel =>
          refine ⟨k + 1, by omega, by go_num, ?_⟩
          rw [take_snoc HK.out.1]
          intro c hc
          rcases List.mem_append.1 hc with hc | hc
          · exact HK.out.2 c hc
          · simp at hc; subst hc; exact hkl
        case measure => simp [intOf]; omega
      · go_wp2_with fail
        go_ret
        exact BoolP.no (fun hh => hkl (hh.1 x (List.mem_of_getElem? HK.out.1))) HB.out
    · have hkl : k = e.cls.length := by omega
      subst hkl
      rw [List.take_length] at hal
      have HK := Lib.hid hal
      clear hal
      by_cases h1 : (e.ops.length : Int) ≤ 80
      · by_cases h2 : (e.args.length : Int) ≤ 12
        · have HH := Lib.hid (And.intro h1 h2)
          have d1 : decide ((e.ops.length : Int) ≤ 80) = true := by simpa using h1
          have d2 : decide ((e.args.length : Int) ≤ 12) = true := by simpa using h2
          clear h1 h2
          go_wp2_with fail
          go_ret
          refine ⟨decide ((e.cls.length : Int) ≤ 80), ?_, rfl, HB.out⟩
          rw [decide_eq_true_iff]
          exact ⟨fun h => ⟨HK.out, by have := HH.out.1; omega, by have := HH.out.2; omega, by omega⟩, fun h => by have := h.2.2.2; omega⟩
        · have HH := Lib.hid h2
          have d1 : decide ((e.ops.length : Int) ≤ 80) = true := by simpa using h1
          have d2 : decide ((e.args.length : Int) ≤ 12) = false := by simpa using h2
          clear h1 h2
          go_wp2_with fail
          go_ret
          exact BoolP.no (fun hh => by have := HH.out; have := hh.2.2.1; omega) HB.out
      · have HH := Lib.hid h1
        have d1 : decide ((e.ops.length : Int) ≤ 80) = false := by simpa using h1
        clear h1
        go_wp2_with fail
        go_ret
        exact BoolP.no (fun hh => by have := HH.out; have := hh.2.1; omega) HB.out

set_option maxRecDepth 100000 in
set_option maxHeartbeats 1000000 in
theorem noneE_ok (w : World) (G : Nat → Prop) (e : FE) (vo va vc : Value) (h : EntRd w G e vo va vc) (hl : e.ops.length ≤ 1000 ∧ e.args.length ≤ 1000 ∧ e.cls.length ≤ 1000) : Calls Tryz.prog 20 #[entV e vo va vc] w (BoolP (NoneE e) w) := by
  obtain ⟨A1, c1, A2, c2, A3, c3, rfl, rfl, rfl, hm1, hm2, hm3⟩ := h.open_
  unfold maxLen at hm1 hm2 hm3
  unfold entV
  have hbb := one_box w (.cells #[.int .i64 e.id, .slice A1 e.ops.length c1, .slice A2 e.args.length c2, .slice A3 e.cls.length c3] 26)
  have HB := Lib.hid hbb
  obtain ⟨hl1, hl2, hl3⟩ := hl
  clear hbb h hm1 hm2 hm3
  by_cases hi : e.id = 0
  · have hi' : (e.id == 0) = true := by simpa using hi
    have HI := Lib.hid hi
    clear hi
    go_enter Tryz.func20, Tryz.ntmps20
    go_wp2_with fail
    go_ret
    refine ⟨_, ?_, rfl, HB.out⟩
    constructor
    · intro hh
      have hh : ((e.ops.length : Int) + (e.args.length : Int) + (e.cls.length : Int) == 0) = true := hh
      have hh : (e.ops.length : Int) + (e.args.length : Int) + (e.cls.length : Int) = 0 := by simpa using hh
      exact ⟨HI.out, by omega⟩
    · intro hh
      have := hh.2
      show ((e.ops.length : Int) + (e.args.length : Int) + (e.cls.length : Int) == 0) = true
      simp
      omega
  · have hi' : (e.id == 0) = false := by simpa using hi
    have HI := Lib.hid hi
    clear hi
    go_enter Tryz.func20, Tryz.ntmps20
    go_wp2_with fail
    go_ret
    exact BoolP.no (fun hh => HI.out hh.1) HB.out
theorem ent_zero (w : World) (G : Nat → Prop) : EntRd w G ⟨0, [], [], []⟩ (.slice none 0 0) (.slice none 0 0) (.slice none 0 0) :=
  ⟨RdK.nil _ _ _, Rd.nil _ _, RdK.nil _ _ _, by simp [I64f], by simp, by simp, by simp⟩
theorem none_zero : NoneE ⟨0, [], [], []⟩ := ⟨rfl, rfl⟩

/-- The entry of the chapter's example. -/
def e5 : FE := ⟨5, [], [], []⟩
theorem good5 : e5.Good := by
  refine { id0 := by decide, id1 := by decide, opl := by decide, ops := by rfl, opb := by simp [e5], arl := by decide, arb := by simp [e5], cll := by decide, clo := by simp [e5], clf := ?_ }
  exact isForm_nil
theorem fits5e : e5.fits := ⟨by simp [I64f, e5], by simp [e5], by simp [e5], by simp [e5]⟩
theorem inside5 : inside e5 = [5, 0, 0, 0] := by decide
end Go.Proofs.YtihjcfifakcpgaaGreatDoor
