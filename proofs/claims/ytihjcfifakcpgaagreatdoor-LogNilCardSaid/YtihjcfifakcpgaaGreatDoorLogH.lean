/- Words of law14: what decoding comes to, twice; log.Entry; ref14.Bytes. -/
import Derived.Test.YtihjcfifakcpgaaGreatDoorFrameBW
import Derived.Test.YtihjcfifakcpgaaGreatDoorRfK
import Derived.Test.YtihjcfifakcpgaaGreatDoorLogF
namespace Go.Proofs.YtihjcfifakcpgaaGreatDoor
set_option maxRecDepth 100000
open Go.RowKit

/-- What decoding comes to, without the memory ahead. -/
def DecQ (G : Nat → Prop) (xs : List UInt8) (en : Ending) (w : World) : Prop :=
  (∃ ys x vo va vc, xs = sealB ys ∧ rdEnt ys = some x ∧ entE x = 0 ∧ en = .returned (.tuple #[entV x vo va vc, .int .i64 0]) ∧ EntRd w G x vo va vc) ∨
  (∃ n : Int, n ≠ 0 ∧ en = .returned (.tuple #[zeroE, .int .i64 n]) ∧ ((∃ ys x, xs = sealB ys ∧ rdEnt ys = some x ∧ n = entE x) ∨ (∃ ys, xs = sealB ys ∧ rdEnt ys = none ∧ n = 11) ∨ ((∀ ys, xs ≠ sealB ys) ∧ n = if xs.length < 4 then 11 else 12)))
theorem DecP.q {xs : List UInt8} {w w' : World} {en : Ending} (hd : DecP xs w en w') : Below w.heap.size w w' ∧ DecQ (fun k => w.heap.size ≤ k) xs en w' := by
  obtain ⟨hb, hd⟩ := hd
  refine ⟨hb, ?_⟩
  rcases hd with ⟨ys, x, vo, va, vc, hs, hr, hz, he, hent⟩ | ⟨ys, x, hs, hr, hz, he⟩ | ⟨ys, hs, hr, he⟩ | ⟨hn, he⟩
  · exact .inl ⟨ys, x, vo, va, vc, hs, hr, hz, he, hent⟩
  · exact .inr ⟨_, hz, he, .inl ⟨ys, x, hs, hr, rfl⟩⟩
  · exact .inr ⟨_, by decide, he, .inr (.inl ⟨ys, hs, hr, rfl⟩)⟩
  · exact .inr ⟨_, by split <;> decide, he, .inr (.inr ⟨hn, rfl⟩)⟩
theorem DecQ.mono {G G' : Nat → Prop} {xs : List UInt8} {en : Ending} {w : World} (h : DecQ G xs en w) (hG : ∀ k, G k → G' k) : DecQ G' xs en w := by
  rcases h with ⟨ys, x, vo, va, vc, hs, hr, hz, he, hent⟩ | h
  · exact .inl ⟨ys, x, vo, va, vc, hs, hr, hz, he, hent.mono hG⟩
  · exact .inr h
theorem DecQ.only {G S : Nat → Prop} {xs : List UInt8} {en : Ending} {w w' : World} (h : DecQ G xs en w) (ho : Only S w w') (hd : ∀ k, G k → ¬ S k) : DecQ G xs en w' := by
  rcases h with ⟨ys, x, vo, va, vc, hs, hr, hz, he, hent⟩ | h
  · exact .inl ⟨ys, x, vo, va, vc, hs, hr, hz, he, hent.only ho hd⟩
  · exact .inr h
theorem DecQ.shape {G : Nat → Prop} {xs : List UInt8} {en : Ending} {w : World} (h : DecQ G xs en w) : ∃ i A1 n1 c1 A2 n2 c2 A3 n3 c3 n, en = .returned (.tuple #[.agg #[.int .i64 i, .slice A1 n1 c1, .slice A2 n2 c2, .slice A3 n3 c3], .int .i64 n]) := by
  rcases h with ⟨ys, x, vo, va, vc, hs, hr, hz, he, hent⟩ | ⟨n, _, he, _⟩
  · obtain ⟨A1, c1, A2, c2, A3, c3, rfl, rfl, rfl, _⟩ := hent.open_
    exact ⟨_, _, _, _, _, _, _, _, _, _, _, he⟩
  · exact ⟨_, _, _, _, _, _, _, _, _, _, _, he⟩
/-- Two decodings of the same bytes. -/
theorem DecQ.two {G G' : Nat → Prop} {xs : List UInt8} {e e' : Ending} {w w' : World} (h : DecQ G xs e w) (h' : DecQ G' xs e' w') :
    (∃ x vo va vc uo ua uc, x.Good ∧ e = .returned (.tuple #[entV x vo va vc, .int .i64 0]) ∧ e' = .returned (.tuple #[entV x uo ua uc, .int .i64 0]) ∧ EntRd w G x vo va vc ∧ EntRd w' G' x uo ua uc) ∨
      (∃ n : Int, n ≠ 0 ∧ e = .returned (.tuple #[zeroE, .int .i64 n]) ∧ e' = .returned (.tuple #[zeroE, .int .i64 n])) := by
  have cr : ∀ {ys zs : List UInt8}, xs = sealB ys → xs = sealB zs → ys = zs := fun a b => sealB_inj (a.symm.trans b)
  rcases h with ⟨ys, x, vo, va, vc, hs, hr, hz, he, hent⟩ | ⟨n, hn, he, hc⟩
  · rcases h' with ⟨ys', x', uo, ua, uc, hs', hr', hz', he', hent'⟩ | ⟨n', hn', he', hc'⟩
    · obtain rfl := cr hs hs'
      rw [hr] at hr'
      injection hr' with hr'
      subst hr'
      exact .inl ⟨x, vo, va, vc, uo, ua, uc, entE_zero hz, he, he', hent, hent'⟩
    · rcases hc' with ⟨zs, y, a, b, c⟩ | ⟨zs, a, b, c⟩ | ⟨a, c⟩
      · obtain rfl := cr hs a
        rw [hr] at b
        injection b with b
        subst b
        exact absurd (c.trans hz) hn'
      · obtain rfl := cr hs a
        rw [hr] at b
        cases b
      · exact absurd hs (a ys)
  · rcases h' with ⟨ys', x', uo, ua, uc, hs', hr', hz', he', hent'⟩ | ⟨n', hn', he', hc'⟩
    · rcases hc with ⟨zs, y, a, b, c⟩ | ⟨zs, a, b, c⟩ | ⟨a, c⟩
      · obtain rfl := cr hs' a
        rw [hr'] at b
        injection b with b
        subst b
        exact absurd (c.trans hz') hn
      · obtain rfl := cr hs' a
        rw [hr'] at b
        cases b
      · exact absurd hs' (a ys')
    · have hnn : n = n' := by
        rcases hc with ⟨zs, y, a, b, c⟩ | ⟨zs, a, b, c⟩ | ⟨a, c⟩ <;> rcases hc' with ⟨zs', y', a', b', c'⟩ | ⟨zs', a', b', c'⟩ | ⟨a', c'⟩
        · obtain rfl := cr a a'
          rw [b] at b'
          injection b' with b'
          subst b'
          rw [c, c']
        · obtain rfl := cr a a'
          rw [b] at b'
          cases b'
        · exact absurd a (a' zs)
        · obtain rfl := cr a a'
          rw [b] at b'
          cases b'
        · rw [c, c']
        · exact absurd a (a' zs)
        · exact absurd a' (a zs')
        · exact absurd a' (a zs')
        · rw [c, c']
      subst hnn
      exact .inr ⟨n, hn, he, he'⟩

set_option maxRecDepth 100000 in
set_option maxHeartbeats 1000000 in
theorem entry_ok (w : World) (F : Nat → Prop) (b : Nat) (ps : List (List UInt8)) (h : LogAt w F b ps) (i : Nat) (p : List UInt8) (hp : ps[i]? = some p) (hlp : p.length ≤ 8192) (hs : ShTab w) (ht : NibTab w) :
    Calls Tryz.prog 30 #[.pointer (some ⟨b, 0, none⟩), .int .i64 i] w fun en w' => Below w.heap.size w w' ∧ DecQ (fun _ => True) p en w' := by
  have hb1 := one_box w (.cells #[.int .i64 0, .slice none 0 0, .slice none 0 0, .slice none 0 0] 26)
  have k1 := heap_alloc_new w (.cells #[.int .i64 0, .slice none 0 0, .slice none 0 0, .slice none 0 0] 26)
  have HA := Lib.hid (at_ok _ F b ps (h.below hb1) i p hp hlp)
  have HS := Lib.hid (And.intro (hs.below hb1) (And.intro (ht.below hb1) hb1))
  clear h hp hs ht hb1
  go_enter Tryz.func30, Tryz.ntmps30
  go_wp2_with fail
  generalize w.alloc (.cells #[.int .i64 0, .slice none 0 0, .slice none 0 0, .slice none 0 0] 26) = w1 at k1 HA HS ⊢
  obtain ⟨R, hR⟩ : ∃ R, w.heap.size = R := ⟨_, rfl⟩
  rw [hR] at k1 ⊢
  have HR := Lib.hid hR
  clear hR
  refine HA.out.mono ?_
  rintro en w2 ⟨A, c, rfl, hO, hb2⟩
  have k2 := (Only.of_below hb2 (fun _ => False)).heap k1 (fun h => h)
  have H2 := Lib.hid (And.intro (HS.out.2.2.trans (hb2.mono HS.out.2.2.size)) (And.intro (HS.out.1.below hb2) (HS.out.2.1.below hb2)))
  have HD := Lib.hid (decode_ok w2 _ _ p H2.out.2.2 H2.out.2.1 (Rd.of_own hO (F := fun _ => True) (fun _ _ => trivial)) (by omega))
  clear hO hb2 k1 HA
  go_wp2_with fail
  refine HD.out.mono ?_
  rintro en w3 hd
  obtain ⟨hb3, hq⟩ := hd.q
  have k3 := (Only.of_below hb3 (fun _ => False)).heap k2 (fun h => h)
  have hRl : R < w2.heap.size := (Array.getElem?_eq_some_iff.1 k2).1
  have H3 := Lib.hid (And.intro (H2.out.1.trans (hb3.mono H2.out.1.size)) hRl)
  obtain ⟨id, A1, n1, c1, A2, n2, c2, A3, n3, c3, n, rfl⟩ := hq.shape
  have HQ := Lib.hid hq
  clear hd hb3 hq k2 HD hRl
  obtain ⟨⟨z0, z1, z2, z3⟩, y0, y1, y2, y3⟩ := blk4 k3
  go_wp2_with fail
  refine bodyPost_ret (results_cell_row2 rfl _ _ _ _ _ _ _ rfl (put4 k3 _ _ _ _) Tryz.underlying26 rfl (by kernel_rfl)) rfl ⟨below4 H3.out.1 (by rw [HR.out]; exact Nat.le_refl _) _ _ _ _, ?_⟩
  exact (HQ.out.only (only4b w3 R _ _ _ _) (fun k hk e => by have := H3.out.2; omega)).mono (fun _ _ => trivial)
set_option maxRecDepth 100000 in
set_option maxHeartbeats 1000000 in
theorem entry_out (w : World) (F : Nat → Prop) (b : Nat) (ps : List (List UInt8)) (h : LogAt w F b ps) (i : Int) (hi : i < 0 ∨ ps.length ≤ i) :
    Calls Tryz.prog 30 #[.pointer (some ⟨b, 0, none⟩), .int .i64 i] w fun en w' => en = .returned (.tuple #[zeroE, .int .i64 10]) ∧ Below w.heap.size w w' := by
  have hb1 := one_box w (.cells #[.int .i64 0, .slice none 0 0, .slice none 0 0, .slice none 0 0] 26)
  have k1 := heap_alloc_new w (.cells #[.int .i64 0, .slice none 0 0, .slice none 0 0, .slice none 0 0] 26)
  have HA := Lib.hid (at_out _ F b ps (h.below hb1) i hi)
  have HB := Lib.hid hb1
  clear h hi hb1
  go_enter Tryz.func30, Tryz.ntmps30
  go_wp2_with fail
  generalize w.alloc (.cells #[.int .i64 0, .slice none 0 0, .slice none 0 0, .slice none 0 0] 26) = w1 at k1 HA HB ⊢
  obtain ⟨R, hR⟩ : ∃ R, w.heap.size = R := ⟨_, rfl⟩
  rw [hR] at k1 ⊢
  have HR := Lib.hid hR
  clear hR
  refine HA.out.mono ?_
  rintro en w2 ⟨rfl, rfl⟩
  obtain ⟨⟨z0, z1, z2, z3⟩, y0, y1, y2, y3⟩ := blk4 k1
  go_wp2_with fail
  refine bodyPost_ret (results_cell_row2 rfl _ _ _ _ _ _ _ rfl (put4 k1 _ _ _ _) Tryz.underlying26 rfl (by kernel_rfl)) rfl ⟨?_, below4 HB.out (by rw [HR.out]; exact Nat.le_refl _) _ _ _ _⟩
  exact rfl
set_option maxRecDepth 100000 in
set_option maxHeartbeats 1000000 in
theorem refBytes14_ok (w : World) (F : Nat → Prop) (v : Value) (ps : List (List UInt8)) (hr : RowsRd w F v ps) (hl : ps.length ≤ 1024) (hpl : ∀ p ∈ ps, p.length ≤ 8192) :
    Calls Tryz.prog 29 #[v] w (FreshB (logB ps) w) := by
  obtain ⟨i0, hi, hz0, hz1, hz2⟩ := info_parts Tryz.info5
  obtain ⟨A, c, rfl, hc, hm, _⟩ := hr.at_
  unfold maxLen at hm
  have HI := Lib.hid hi
  have HR := Lib.hid (And.intro hr hpl)
  clear hi hr hpl
  go_enter Tryz.func29, Tryz.ntmps29
  go_wp2_with fail
  refine (refUint_ok w ps.length (by omega)).mono ?_
  rintro e w1 ⟨A1, c1, rfl, hO1, hb1⟩
  have H1 := Lib.hid (And.intro hO1 hb1)
  clear hO1 hb1
  go_wp2_with fail
  go_loopw [3, 4] (fun z i wr => ∃ k : Nat, k ≤ ps.length ∧ i = .int .i64 (k : Int) ∧ wr.ownsRow w.heap.size 5 1 z (leb ps.length ++ textsB (ps.take k)).length ((leb ps.length ++ textsB (ps.take k)).map B8) ∧ Below w.heap.size w wr) (fun _ i _ => ps.length - (intOf i).toNat)
  case atStart => exact ⟨0, Nat.zero_le _, rfl, by simpa [textsB] using H1.out.1, H1.out.2⟩
  case round =>
    obtain ⟨k, hk, rfl, hown, hbl⟩ := hrel
    by_cases hlt : k < ps.length
    · obtain ⟨p, hp⟩ : ∃ p, ps[k]? = some p := ⟨_, List.getElem?_eq_getElem hlt⟩
      have hpl := HR.out.2 p (List.mem_of_getElem? hp)
      obtain ⟨A0, c0, he, _, _, hat⟩ := (HR.out.1.below hbl).at_
      injection he with e1 _ e3
      subst e1 e3
      obtain ⟨bb, oo, A2, c2, rfl, hcell, hrd2⟩ := hat k p hp
      have hcv := conv_rd (P := Tryz.prog) 31 9 5 Tryz.underlying31 Tryz.underlying5 Tryz.underlying9 hrd2
      have htk : textsB (ps.take (k + 1)) = textsB (ps.take k) ++ (leb p.length ++ p) := by
        rw [List.take_add_one, hp]
        simp [textsB, textB]
      have hbd : (leb ps.length ++ textsB (ps.take k)).length ≤ 10000000 := by
        have h1 := textsB_length (ps.take k) (fun q hq => HR.out.2 q (List.mem_of_mem_take hq))
        have h3 := leb_length ps.length
        have h4 : (ps.take k).length ≤ 1024 := by simp; omega
        have h5 := Nat.mul_le_mul_left 8202 h4
        simp
        omega
      have HT := Lib.hid htk
      obtain ⟨cur, hcur⟩ : ∃ l, leb ps.length ++ textsB (ps.take k) = l := ⟨_, rfl⟩
      rw [hcur] at hown hbd
      have HC := Lib.hid hcur
      clear hcur
      have HCUR := Lib.hid (And.intro hown hbl)
      have i1 : (0 : Int) ≤ (k : Int) := by omega
      have i2 : (k : Int) < (ps.length : Int) := by omega
      clear hown hbl hat hrd2 hp htk
      go_wp2_with fail
      refine (refText_ok wr p (by omega)).mono ?_
      rintro e w2 ⟨A2', c2', rfl, hO2, hb2⟩
      have hown2 := own_below HCUR.out.1 hb2
      have hbl2 := HCUR.out.2.trans (hb2.mono HCUR.out.2.size)
      have htl : (leb p.length ++ p).length ≤ 10000 := by have := leb_length p.length; simp; omega
      have hrd := Rd.of_own hO2 (F := fun _ => True) (fun _ _ => trivial)
      generalize leb p.length ++ p = tx at hrd htl HT hO2 ⊢
      have H2 := Lib.hid (And.intro hown2 (And.intro hbl2 hrd))
      clear hown2 hbl2 hrd hb2 hO2 hcv hcell
      go_wp2_with (at_builtin; go_loud (refine wpList_append_rd _ rfl _ _ 31 rfl w.heap.size 5 i0 (.int .u8 0) 1 Tryz.underlying31 HI.out hz0 hz1 hz2 rfl _ cur.length _ rfl H2.out.1 _ _ (tx.map B8) rfl H2.out.2.2 (B8_one _) (by simp; omega) (by simp [maxLen]; omega) H2.out.2.1.size ?_); intro v4 w4 hown4 hgrow4 _)
      have hbl4 := H2.out.2.1.grown hgrow4 H2.out.2.1.size (fun k hk => (H2.out.1.lt k hk).1)
      have H4 := Lib.hid (And.intro hown4 hbl4)
      clear hown4 hgrow4 hbl4
      go_roundw
      case rel =>
        refine ⟨k + 1, by omega, by go_num, ?_, H4.out.2⟩
        rw [HT.out, ← List.append_assoc, HC.out, List.length_append, List.map_append]
        simpa using H4.out.1
      case measure => simp [intOf]; omega
    · obtain rfl : k = ps.length := by omega
      rw [List.take_length] at hown
      have HO := Lib.hid (And.intro hown hbl)
      clear hown hbl
      go_wp2_with fail
      go_ret
      obtain ⟨A4, c4, hv⟩ := ownsRow_slice HO.out.1
      subst hv
      exact ⟨A4, c4, rfl, HO.out.1, HO.out.2⟩
end Go.Proofs.YtihjcfifakcpgaaGreatDoor
