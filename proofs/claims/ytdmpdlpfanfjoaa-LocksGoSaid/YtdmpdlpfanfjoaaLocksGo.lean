/- Proved: LocksGo returns true for every input: as long as there is one, the first one is ready, no two that are ready conflict, what is ready stays ready up to its release, and so all are released, two that conflict in the order in which they came; no condition. -/
import Derived.Test.YtdmpdlpfanfjoaaLocksGoP
import Derived.Test.YtdmpdlpfanfjoaaFootZ
namespace Go.Proofs.Ytdmpdlpfanfjoaa
open Go.ChangeShapes Go.WideShapes Go.ChangeAt Go.RowKit

theorem Try.infoFoot : (Try.prog.info? 30).map (fun i => (i.zero, i.size, i.bytes)) = some (some (.agg #[.slice none 0 0]), 1, 24) := by kernel_rfl
/-- While the footprints come. -/
def ComeR (w0 : World) (b : Nat) (k : Nat) (v : Value) (wr : World) : Prop :=
  ∃ F C l n sm la A c, v = .slice A l.length c ∧ One w0 wr F C b sm la l n ∧ l.length = k ∧ Placed l ∧ (sm = true → la < (k : Int)) ∧ n ≤ 100 * k ∧ FeetOw w0 wr F C v l
/-- While they go. -/
def GoR (w0 wK : World) (F C : Nat → Prop) (b : Nat) (sm : Bool) (la : Int) (l0 : List Ent) (fv : Value) (N k : Nat) (ov : Value) (wr : World) : Prop :=
  ∃ lk n outs A c, ov = .slice A outs.length c ∧ GoS w0 wK F C b sm la l0 lk n fv ov outs wr ∧ GoInv l0 lk outs ∧ lk.length + k = N ∧ n ≤ 10000 + 100 * k ∧ outs.length = k

set_option maxRecDepth 100000 in
set_option maxHeartbeats 1000000 in
theorem lgo_far (w0 : World) (v0 v1 : Value) (ls : List (List Cl)) (bs : List Int) (h0 : RowsC w0 v0 ls) (h1 : Rd w0 (fun _ => True) v1 (bs.map (Value.int .i64))) (hl : 20 < ls.length ∨ (ls.length ≤ 20 ∧ 20 < bs.length)) :
    Calls Try.prog 10 #[v0, v1] w0 fun e w' => e = .returned (.bool true) ∧ Below w0.heap.size w0 w' := by
  obtain ⟨A0, c0, rfl, hlm⟩ := h0.slice
  obtain ⟨A1, c1, rfl, hlb⟩ := h1.ints_slice
  unfold maxLen at hlm hlb
  clear h0 h1
  have HB0 := Lib.hid (Below.refl w0.heap.size w0)
  rcases hl with hl | ⟨hl, hl2⟩
  · skip
    go_enter Try.func10, Try.ntmps10
    go_wp2_with fail
    refine (awake10_ok _).mono ?_
    rintro e wq ⟨rfl, hb⟩
    have HB := Lib.hid (HB0.out.trans (hb.mono HB0.out.size))
    clear hb
    go_wp2_with fail
    go_ret
    exact ⟨rfl, HB.out⟩
  · skip
    go_enter Try.func10, Try.ntmps10
    go_wp2_with fail
    refine (awake10_ok _).mono ?_
    rintro e wq ⟨rfl, hb⟩
    have HB := Lib.hid (HB0.out.trans (hb.mono HB0.out.size))
    clear hb
    go_wp2_with fail
    go_ret
    exact ⟨rfl, HB.out⟩

set_option maxRecDepth 100000 in
set_option maxHeartbeats 8000000 in
theorem lgo_ok (w0 : World) (v0 v1 : Value) (ls : List (List Cl)) (bs : List Int) (h0 : RowsC w0 v0 ls) (h1 : Rd w0 (fun _ => True) v1 (bs.map (Value.int .i64))) (hi1 : ∀ x ∈ bs, I64 x) (hl : ls.length ≤ 20) (hbl : bs.length ≤ 20) :
    Calls Try.prog 10 #[v0, v1] w0 fun e w' => e = .returned (.bool true) ∧ Below w0.heap.size w0 w' := by
  obtain ⟨i0, hi, hz0, hz1, hz2⟩ := info_parts Try.infoFoot
  obtain ⟨i2, hi2, hy0, hy1, hy2⟩ := info_parts Try.infoInt
  have HHI := Lib.hid (And.intro hi hi2)
  obtain ⟨A0, c0, rfl, hlm⟩ := h0.slice
  obtain ⟨A1, c1, rfl, _⟩ := h1.ints_slice
  have HZ := Lib.hid (And.intro h0 (And.intro h1.ints_at.2 hi1))
  clear h0 h1 hlm hi1 hi hi2
  go_enter Try.func10, Try.ntmps10
  go_wp2_with fail
  refine (lnew_ok w0).mono ?_
  rintro e w1 ⟨b, rfl, hb1, hl1⟩
  have HS := Lib.hid (show ComeR w0 b 0 (.slice none 0 0) w1 from ⟨_, _, [], 0, false, 0, none, 0, rfl, One.start hb1 hl1, rfl, Placed.nil, (fun h => by cases h), Nat.zero_le _, FeetOw.nil _ _ _ _⟩)
  clear hb1 hl1
  go_wp2_with fail
  go_loopw [6, 7] (fun v i wr => ∃ k : Nat, k ≤ ls.length ∧ i = .int .i64 (k : Int) ∧ ComeR w0 b k v wr) (fun _ i _ => ls.length - (intOf i).toNat)
  case atStart => exact ⟨0, Nat.zero_le _, rfl, HS.out⟩
  case round =>
    obtain ⟨k, hk, rfl, F, C, l, n, sm, la, Av, cv, rfl, hx, hlk, hpl, hsm, hn, hfo⟩ := hrel
    by_cases hlt : k < ls.length
    · obtain ⟨q, hq⟩ : ∃ q, ls[k]? = some q := ⟨_, List.getElem?_eq_getElem hlt⟩
      obtain ⟨br, or_, Ar, cr, rfl, hcr, hrd, hfit⟩ := RowsC.at_ HZ.out.1 hq
      have hcr' := (hx.2.2.cell (p := ⟨br, or_ + k, none⟩) (World.block_lt_of_cell? _ _ hcr)).trans hcr
      have hqm : q.length ≤ 9223372036854775807 := by have := RdK.length_le hrd; simp [maxLen] at this; omega
      have HQ := Lib.hid (And.intro hrd (And.intro hfit hq))
      have HL := Lib.hid (And.intro hx (And.intro hlk (And.intro hpl (And.intro hsm (And.intro hn hfo)))))
      clear hcr hrd hfit hq hx hlk hpl hsm hn hfo
      by_cases hq20 : 20 < q.length
      · have HB1 := Lib.hid HL.out.1.2.2
        go_wp2_with fail
        refine (awake10_ok _).mono ?_
        rintro e wq ⟨rfl, hb⟩
        have HB := Lib.hid (HB1.out.trans (hb.mono HB1.out.size))
        clear hb
        go_wp2_with fail
        go_ret
        exact ⟨rfl, HB.out⟩
      · go_wp2_with fail
        refine (new_ok wr (fun _ => True) _ q (RdK.below HQ.out.1 HL.out.1.2.2) (by omega) HQ.out.2.1).mono ?_
        intro e w3 hnp
        obtain ⟨u1, n1, rfl, hnv⟩ := hnp.named
        have hb3 := hnv.1
        rcases hnv.cases with ⟨hn0, rfl⟩ | ⟨rfl, he0, out, hf, h64, A3, c3, rfl, hO⟩
        · have e1 : (n1 == 0) = false := by simpa using hn0
          have e2 : (n1 != 0) = true := by simpa using hn0
          have HB3 := Lib.hid (HL.out.1.2.2.trans ((hb3.alloc hb3.size (.cells #[.slice none 0 0] 30)).mono HL.out.1.2.2.size))
          clear hn0 hb3 hnv hnp
          go_wp2_with fail
          refine (awake10_ok _).mono ?_
          rintro e wq ⟨rfl, hb⟩
          have HB := Lib.hid (HB3.out.trans (hb.mono HB3.out.size))
          clear hb
          go_wp2_with fail
          go_ret
          exact ⟨rfl, HB.out⟩
        · have hft := FtC.box (C := C) hb3 hO (Nat.le_refl _)
          have hbx : Below wr.heap.size wr (w3.alloc (.cells #[.slice A3 out.length c3] 30)) := hb3.alloc hb3.size _
          clear hO hnv hnp hb3 hf he0
          go_upto_region 13 with fail
          generalize w3.alloc (.cells #[.slice A3 out.length c3] 30) = w4 at hft hbx ⊢
          obtain ⟨D, hD⟩ : ∃ D, Mor C wr w4 = D := ⟨_, rfl⟩
          have hx4 := HL.out.1.mor hbx
          have ho4 := HL.out.2.2.2.2.2.mor hbx
          rw [hD] at hx4 ho4 hft
          have FQ := Lib.hid hft
          have fb := FQ.out.cell
          have hlk := HL.out.2.1
          have hn5 := HL.out.2.2.2.2.1
          have hl5 : l.length ≤ 100000 := by omega
          have hn6 : n ≤ 1000000000 := by omega
          have HLK := Lib.hid hlk
          have hl20 : l.length ≤ 20 := by omega
          obtain ⟨vs, hw4, hvx, hvn⟩ := ho4
          have hnews := World.news_of_block (heap_alloc_new w4 (.cells #[.slice A3 out.length c3] 30))
          have hw4' := hw4.alloc (.cells #[.slice A3 out.length c3] 30)
          have hbs : w0.heap.size ≤ w4.heap.size := hx4.2.2.size
          have HX4 := Lib.hid (And.intro hx4 (And.intro hw4 (And.intro hvx (And.intro hvn (And.intro hnews hw4')))))
          clear hx4 hft hbx hD hlk hw4 hvx hvn hnews hw4'
          go_upto_region 16 with (at_builtin; go_loud (refine wpList_append_lies _ rfl _ _ 48 rfl w0.heap.size 30 i0 _ 1 24 Try.underlying48 HHI.out.1 hz0 hz1 hz2 rfl (by decide) (.slice Av l.length cv) l.length vs rfl HX4.out.2.2.2.2.2 ⟨w4.heap.size, 0, none⟩ 1 1 [.slice A3 out.length c3] rfl rfl HX4.out.2.2.2.2.1 (by simp [Value.oneCell']) (by decide) (by unfold maxLen; omega) (by omega) (by simp; omega) _ rfl ?_); intro g cap w5 hown5 hgrow5 hat5 hlt5; clear fb)
          obtain ⟨hfo5, hon5⟩ := FeetOw.append (id := (k : Int)) HX4.out.2.1 HX4.out.2.2.1 HX4.out.2.2.2.1 FQ.out.2.2 h64 hown5 hgrow5 hat5 HX4.out.1.1.flt (fun k hk => (HX4.out.1.1.clt k hk).1)
          have hx5 : One w0 w5 F D b sm la l n := ⟨HX4.out.1.1.only hon5 (fun k hk e => (HX4.out.2.2.2.1 k e).1 hk) (fun k hk e => (HX4.out.2.2.2.1 k e).2 hk), HX4.out.1.2.1, (Only.belowN hon5 hbs (fun k hk e => by have := (HX4.out.2.1.lt k e).1; omega)) |> fun hh => HX4.out.1.2.2.trans hh⟩
          have FQ5 := Lib.hid (FQ.out.only hon5 (fun k hk e => (HX4.out.2.2.2.1 k e).2 hk))
          have fb5 := FQ5.out.cell
          have HX5 := Lib.hid (And.intro hx5 hfo5)
          clear hown5 hgrow5 hat5 hlt5 hfo5 hon5 hx5
          go_wp2_with fail
          refine (enq_ok w5 F D b n sm la l (k : Int) (.slice A3 out.length c3) out HX5.out.1.1 hl5 hn6 (by unfold I64; omega) FQ5.out.2.2 (by omega)).mono ?_
          intro e w6 hq6
          obtain ⟨rfl, hoF, F', hx6, hF'⟩ := hq6.next HX5.out.1 HL.out.2.2.2.1
          have hfo6 := HX5.out.2.only hoF HX5.out.1.cF hF'
          have HX6 := Lib.hid (And.intro hx6 hfo6)
          clear hq6 hoF hF' hx6 hfo6 fb5
          go_wp2_with fail
          go_roundw
          case rel => exact ⟨k + 1, by omega, by go_num, F', D, l ++ [((k : Int), out)], _, true, (k : Int), some ⟨g, 0, none⟩, cap, by simp, HX6.out.1, by simp [HLK.out], HL.out.2.2.1.snoc HLK.out out, fun _ => by omega, by have := HLK.out; omega, HX6.out.2⟩
          case measure => simp [intOf]; omega
    · have hkl : k = ls.length := by omega
      subst hkl
      have hrd0 := hfo.rd
      have hown0 := hfo
      obtain ⟨vs, hvo, _, hvn⟩ := hown0
      obtain ⟨D, hD⟩ : ∃ D : Nat → Prop, (fun k => C k ∨ (Value.slice Av l.length cv).ownBlock = some k) = D := ⟨_, rfl⟩
      have hx2 : One w0 wr F D b sm la l n := ⟨hx.1.moreC (fun k hk => by rw [← hD]; exact .inl hk) (fun k hk => by
        rw [← hD] at hk
        rcases hk with hk | hk
        · exact hx.1.clt k hk
        · exact ⟨(hvo.lt k hk).2, (hvn k hk).1⟩), hx.2⟩
      rw [hD] at hrd0
      have hg0 : GoS w0 wr F D b sm la l l n (.slice Av l.length cv) (.slice none 0 0) [] wr := ⟨hx2, hrd0, World.ownsRow_nil _ _ _ _, Nat.le_refl _, hx.2.2.size, hx.1.flt, fun k hk => (hx2.1.clt k hk).1⟩
      have hgo : GoR w0 wr F D b sm la l (.slice Av l.length cv) ls.length 0 (.slice none 0 0) wr := ⟨l, n, [], none, 0, rfl, hg0, GoInv.start l, by omega, by omega, rfl⟩
      have HG := Lib.hid (And.intro hgo (And.intro hpl (And.intro hlk hrd0)))
      obtain ⟨wK, hwK⟩ : ∃ wK : World, wK = wr := ⟨_, rfl⟩
      have hl20 : l.length ≤ 20 := by omega
      have HLK := Lib.hid hlk
      rw [← hwK] at HG ⊢
      clear hx hlk hpl hsm hn hfo hrd0 hvo hvn hx2 hg0 hgo HS hD hwK
      go_wp2_with fail
      go_loopw [10, 11] (fun ov i w2 => ∃ k : Nat, k ≤ ls.length ∧ i = .int .i64 (k : Int) ∧ GoR w0 wK F D b sm la l (.slice Av l.length cv) ls.length k ov w2) (fun _ i _ => ls.length - (intOf i).toNat)
      case atStart => exact ⟨0, Nat.zero_le _, rfl, HG.out.1⟩
      case round =>
        obtain ⟨k, hk, rfl, lk, n2, outs, Ao, co, rfl, hg, hinv, hlen, hn2, hol⟩ := hrel
        rename World => w2
        have HV := Lib.hid (And.intro hg (And.intro hinv (And.intro hlen hol)))
        have hlk20 : lk.length ≤ 20 := by omega
        have ho20 : outs.length ≤ 20 := by omega
        by_cases hlt2 : k < ls.length
        · have hne : lk ≠ [] := fun e => by subst e; simp at hlen; omega
          have hlenI : (lk.length : Int) = (ls.length : Int) - (k : Int) := by omega
          have HLI := Lib.hid (And.intro hlenI hne)
          clear hg hinv hlen hol hlenI hne
          go_wp2_with fail
          refine (lkReady_ok w2 F D b n2 sm la lk HV.out.1.1.1 (by omega)).mono ?_
          rintro e w3 ⟨v3, rfl, hf3⟩
          have hg3 := HV.out.1.below hf3.below
          have hr3 : Rd w3 (fun k => w2.heap.size ≤ k) v3 ((ready lk).map (Value.int .i64)) := hf3.rdN
          obtain ⟨A3, c3, rfl, _⟩ := hr3.ints_slice
          have hrl : (ready lk).length ≤ lk.length := by
            unfold ready
            refine Nat.le_trans (List.length_filter_le _ _) ?_
            simp [nums]
          have hrn := ready_ne HV.out.1.1.1.line.1 HLI.out.2
          have hrise := ready_rise HV.out.1.1.1.line.1
          obtain ⟨rs, hrs⟩ : ∃ rs, ready lk = rs := ⟨_, rfl⟩
          rw [hrs] at hr3 hrl hrn hrise ⊢
          have hpos := List.length_pos_iff.2 hrn
          obtain ⟨m, hm⟩ : ∃ m, rs.length = m := ⟨_, rfl⟩
          rw [hm] at hpos hrl ⊢
          have H3 := Lib.hid (And.intro hg3 (And.intro hr3 (And.intro hrs (And.intro hm hrise))))
          clear hf3 hg3 hr3 hrs hm hrn hrise
          have hmz0 : ¬ ((m : Int) = 0) := by omega
          have hmz1 : ((m : Int) == 0) = false := by simpa using hmz0
          go_wp2_with fail
          refine (lkLen_ok w3 F D b n2 sm la lk H3.out.1.1.1).mono ?_
          rintro e w4 ⟨rfl, rfl⟩
          rw [HLI.out.1]
          go_wp2_with fail
          go_loopw [14] (fun i w4 => ∃ k3 : Nat, k3 ≤ m ∧ i = .int .i64 (k3 : Int) ∧ GoS w0 wK F D b sm la l lk n2 (.slice Av l.length cv) (.slice Ao outs.length co) outs w4 ∧ Rd w4 (fun k => w2.heap.size ≤ k) (.slice A3 m c3) (rs.map (Value.int .i64))) (fun i _ => m - (intOf i).toNat)
          case atStart => exact ⟨0, Nat.zero_le _, rfl, H3.out.1, by have := H3.out.2.1; rw [H3.out.2.2.2.1] at this; exact this⟩
          case round =>
            obtain ⟨k3, hk3, rfl, hg4, hr4⟩ := hrel
            rename World => w4
            have H4 := Lib.hid (And.intro hg4 hr4)
            clear hg4 hr4
            by_cases hlt3 : k3 < m
            · obtain ⟨y, hy⟩ : ∃ y, rs[k3]? = some y := ⟨_, List.getElem?_eq_getElem (by rw [H3.out.2.2.2.1]; exact hlt3)⟩
              obtain ⟨yi, fy, hyi, rfl, hyl, hym⟩ := HV.out.2.1.ready_at HG.out.2.1 (i := y) (by rw [H3.out.2.2.1]; exact List.mem_of_getElem? hy)
              obtain ⟨bl, ol, rfl, cy⟩ := H4.out.2.ints_at.2 k3 _ hy
              have hyi' : yi < ls.length := by have := HLK.out; omega
              have HY := Lib.hid (And.intro hy (And.intro hyl hym))
              clear hy hyl hym
              go_wp2_with fail
              go_loopw [15] (fun i w5 => ∃ m4 : Nat, m4 ≤ k3 ∧ i = .int .i64 (m4 : Int) ∧ GoS w0 wK F D b sm la l lk n2 (.slice Av l.length cv) (.slice Ao outs.length co) outs w5 ∧ Rd w5 (fun k => w2.heap.size ≤ k) (.slice (some ⟨bl, ol, none⟩) m c3) (rs.map (Value.int .i64))) (fun i _ => k3 - (intOf i).toNat)
              case atStart => exact ⟨0, Nat.zero_le _, rfl, H4.out.1, H4.out.2⟩
              case round =>
                obtain ⟨m4, hm4, rfl, hg5, hr5⟩ := hrel
                rename World => w5
                have H5 := Lib.hid (And.intro hg5 hr5)
                clear hg5 hr5 cy
                by_cases hlt4 : m4 < k3
                · obtain ⟨x, hx⟩ : ∃ x, rs[m4]? = some x := ⟨_, List.getElem?_eq_getElem (by rw [H3.out.2.2.2.1]; omega)⟩
                  obtain ⟨xi, fx, hxi, rfl, hxl, hxm⟩ := HV.out.2.1.ready_at HG.out.2.1 (i := x) (by rw [H3.out.2.2.1]; exact List.mem_of_getElem? hx)
                  obtain ⟨_, _, he1, cx⟩ := H5.out.2.ints_at.2 m4 _ hx
                  injection he1 with he1
                  injection he1 with he1 he2
                  subst he1 he2
                  obtain ⟨_, _, he1, cy⟩ := H5.out.2.ints_at.2 k3 _ HY.out.1
                  injection he1 with he1
                  injection he1 with he1 he2
                  subst he1 he2
                  have hxy : (xi : Int) < (yi : Int) := by
                    have hh := H3.out.2.2.2.2
                    have h1 := List.getElem?_eq_some_iff.1 hx
                    have h2 := List.getElem?_eq_some_iff.1 HY.out.1
                    have := List.pairwise_iff_getElem.1 hh m4 k3 h1.1 h2.1 hlt4
                    rw [h1.2, h2.2] at this
                    exact this
                  obtain ⟨bf, of_, Ax, cx', hAf, fxc, frx, flx⟩ := H5.out.1.2.1.at_ hxl
                  obtain ⟨bf2, of2, Ay, cy', hAf2, fyc, fry, fly⟩ := H5.out.1.2.1.at_ HY.out.2.1
                  subst hAf
                  injection hAf2 with hAf2
                  injection hAf2 with hAf2 hAf3
                  subst hAf2 hAf3
                  have hnc : ¬ ConflP fx fy := ready_apart (l := lk) (i := (xi : Int)) (j := (yi : Int)) (by rw [H3.out.2.2.1]; exact List.mem_of_getElem? hx) (by rw [H3.out.2.2.1]; exact List.mem_of_getElem? HY.out.1) (by omega) (ftOf_of_mem HV.out.1.1.1.line.1 hxm) (ftOf_of_mem HV.out.1.1.1.line.1 HY.out.2.2)
                  have hlb := World.block_lt_of_cell? _ _ cx
                  have hlf := World.block_lt_of_cell? _ _ fxc
                  simp only at fxc fyc frx fry flx fly hlb hlf
                  have HXX := Lib.hid (And.intro frx (And.intro fry (And.intro flx (And.intro fly hnc))))
                  clear frx fry flx fly hnc hx hxl hxm
                  have hxyn : xi < yi := by omega
                  have hm4m : m4 < m := by omega
                  go_upto_region 34 with fail
                  refine wp_region_held_drew (S := (fun w' => Below w5.heap.size w5 w')) (by kernel_rfl) (Below.refl _ _).drew (fun hHeld => ?_)
                  refine takeL (i := 0) (v := ?_) rfl (by kernel_rfl) (by kernel_rfl) (by kernel_rfl) (fun _ _ _ h => h) (by rfl) (fun wS hSw => ?_) hHeld ?_
                  rotate_left
                  · go_simp; try with_reducible rfl
                  try simp only [Act.put, List.setIfInBounds_toArray, List.set_cons_zero, List.set_cons_succ]
                  refine takeL (i := 1) (v := ?_) rfl (by kernel_rfl) (by kernel_rfl) (by kernel_rfl) (fun _ _ _ h => h) (by rfl) (fun wS hSw => ?_) hHeld ?_
                  rotate_left
                  · go_simp; try with_reducible rfl
                  try simp only [Act.put, List.setIfInBounds_toArray, List.set_cons_zero, List.set_cons_succ]
                  refine takeL (i := 2) (v := ?_) rfl (by kernel_rfl) (by kernel_rfl) (by kernel_rfl) (fun _ _ _ h => h) (by rfl) (fun wS hSw => ?_) hHeld ?_
                  rotate_left
                  · go_simp; try with_reducible rfl
                  try simp only [Act.put, List.setIfInBounds_toArray, List.set_cons_zero, List.set_cons_succ]
                  refine takeL (i := 3) (v := ?_) rfl (by kernel_rfl) (by kernel_rfl) (by kernel_rfl) (fun _ _ _ h => h) (by rfl) (fun wS hSw => ?_) hHeld ?_
                  rotate_left
                  · have s1 := (Below.cell hSw (p := ⟨bl, ol + m4, none⟩) hlb).trans cx; go_simp; try with_reducible rfl
                  try simp only [Act.put, List.setIfInBounds_toArray, List.set_cons_zero, List.set_cons_succ]
                  refine takeL (i := 4) (v := ?_) rfl (by kernel_rfl) (by kernel_rfl) (by kernel_rfl) (fun _ _ _ h => h) (by rfl) (fun wS hSw => ?_) hHeld ?_
                  rotate_left
                  · go_simp; try with_reducible rfl
                  try simp only [Act.put, List.setIfInBounds_toArray, List.set_cons_zero, List.set_cons_succ]
                  refine takeL (i := 5) (v := ?_) rfl (by kernel_rfl) (by kernel_rfl) (by kernel_rfl) (fun _ _ _ h => h) (by rfl) (fun wS hSw => ?_) hHeld ?_
                  rotate_left
                  · go_simp; try with_reducible rfl
                  try simp only [Act.put, List.setIfInBounds_toArray, List.set_cons_zero, List.set_cons_succ]
                  refine takeL (i := 6) (v := ?_) rfl (by kernel_rfl) (by kernel_rfl) (by kernel_rfl) (fun _ _ _ h => h) (by rfl) (fun wS hSw => ?_) hHeld ?_
                  rotate_left
                  · go_simp; try with_reducible rfl
                  try simp only [Act.put, List.setIfInBounds_toArray, List.set_cons_zero, List.set_cons_succ]
                  refine takeL (i := 7) (v := ?_) rfl (by kernel_rfl) (by kernel_rfl) (by kernel_rfl) (fun _ _ _ h => h) (by rfl) (fun wS hSw => ?_) hHeld ?_
                  rotate_left
                  · have s1 := (Below.cell hSw (p := ⟨bl, ol + k3, none⟩) hlb).trans cy; go_simp; try with_reducible rfl
                  try simp only [Act.put, List.setIfInBounds_toArray, List.set_cons_zero, List.set_cons_succ]
                  refine takeL (i := 8) (v := .bool false) rfl (by kernel_rfl) (by kernel_rfl) (by kernel_rfl) (fun _ _ _ h => h) (by rfl) (fun wS hSw => ?_) hHeld ?_
                  · go_simp; first | done | (simp; omega) | (simp [*]; done) | omega
                  try simp only [Act.put, List.setIfInBounds_toArray, List.set_cons_zero, List.set_cons_succ]
                  refine takeL (i := 9) (v := ?_) rfl (by kernel_rfl) (by kernel_rfl) (by kernel_rfl) (fun _ _ _ h => h) (by rfl) (fun wS hSw => ?_) hHeld ?_
                  rotate_left
                  · go_simp; try with_reducible rfl
                  try simp only [Act.put, List.setIfInBounds_toArray, List.set_cons_zero, List.set_cons_succ]
                  refine takeL (i := 10) (v := ?_) rfl (by kernel_rfl) (by kernel_rfl) (by kernel_rfl) (fun _ _ _ h => h) (by rfl) (fun wS hSw => ?_) hHeld ?_
                  rotate_left
                  · go_simp; try with_reducible rfl
                  try simp only [Act.put, List.setIfInBounds_toArray, List.set_cons_zero, List.set_cons_succ]
                  refine takeL (i := 11) (v := ?_) rfl (by kernel_rfl) (by kernel_rfl) (by kernel_rfl) (fun _ _ _ h => h) (by rfl) (fun wS hSw => ?_) hHeld ?_
                  rotate_left
                  · go_simp; try with_reducible rfl
                  try simp only [Act.put, List.setIfInBounds_toArray, List.set_cons_zero, List.set_cons_succ]
                  refine takeL (i := 12) (v := ?_) rfl (by kernel_rfl) (by kernel_rfl) (by kernel_rfl) (fun _ _ _ h => h) (by rfl) (fun wS hSw => ?_) hHeld ?_
                  rotate_left
                  · go_simp; try with_reducible rfl
                  try simp only [Act.put, List.setIfInBounds_toArray, List.set_cons_zero, List.set_cons_succ]
                  refine takeL (i := 13) (v := ?_) rfl (by kernel_rfl) (by kernel_rfl) (by kernel_rfl) (fun _ _ _ h => h) (by rfl) (fun wS hSw => ?_) hHeld ?_
                  rotate_left
                  · go_simp; try with_reducible rfl
                  try simp only [Act.put, List.setIfInBounds_toArray, List.set_cons_zero, List.set_cons_succ]
                  refine takeL (i := 14) (v := ?_) rfl (by kernel_rfl) (by kernel_rfl) (by kernel_rfl) (fun _ _ _ h => h) (by rfl) (fun wS hSw => ?_) hHeld ?_
                  rotate_left
                  · have s1 := (Below.cell hSw (p := ⟨bl, ol + m4, none⟩) hlb).trans cx; go_simp; try with_reducible rfl
                  try simp only [Act.put, List.setIfInBounds_toArray, List.set_cons_zero, List.set_cons_succ]
                  refine takeL (i := 15) (v := ?_) rfl (by kernel_rfl) (by kernel_rfl) (by kernel_rfl) (fun _ _ _ h => h) (by rfl) (fun wS hSw => ?_) hHeld ?_
                  rotate_left
                  · go_simp; try with_reducible rfl
                  try simp only [Act.put, List.setIfInBounds_toArray, List.set_cons_zero, List.set_cons_succ]
                  refine takeL (i := 16) (v := ?_) rfl (by kernel_rfl) (by kernel_rfl) (by kernel_rfl) (fun _ _ _ h => h) (by rfl) (fun wS hSw => ?_) hHeld ?_
                  rotate_left
                  · have s1 := (Below.cell hSw (p := ⟨bf, of_ + xi, none⟩) hlf).trans fxc; go_simp; try with_reducible rfl
                  try simp only [Act.put, List.setIfInBounds_toArray, List.set_cons_zero, List.set_cons_succ]
                  refine takeL (i := 17) (v := ?_) rfl (by kernel_rfl) (by kernel_rfl) (by kernel_rfl) (fun _ _ _ h => h) (by rfl) (fun wS hSw => ?_) hHeld ?_
                  rotate_left
                  · go_simp; try with_reducible rfl
                  try simp only [Act.put, List.setIfInBounds_toArray, List.set_cons_zero, List.set_cons_succ]
                  refine takeL (i := 18) (v := ?_) rfl (by kernel_rfl) (by kernel_rfl) (by kernel_rfl) (fun _ _ _ h => h) (by rfl) (fun wS hSw => ?_) hHeld ?_
                  rotate_left
                  · go_simp; try with_reducible rfl
                  try simp only [Act.put, List.setIfInBounds_toArray, List.set_cons_zero, List.set_cons_succ]
                  refine takeL (i := 19) (v := ?_) rfl (by kernel_rfl) (by kernel_rfl) (by kernel_rfl) (fun _ _ _ h => h) (by rfl) (fun wS hSw => ?_) hHeld ?_
                  rotate_left
                  · go_simp; try with_reducible rfl
                  try simp only [Act.put, List.setIfInBounds_toArray, List.set_cons_zero, List.set_cons_succ]
                  refine takeL (i := 20) (v := ?_) rfl (by kernel_rfl) (by kernel_rfl) (by kernel_rfl) (fun _ _ _ h => h) (by rfl) (fun wS hSw => ?_) hHeld ?_
                  rotate_left
                  · go_simp; try with_reducible rfl
                  try simp only [Act.put, List.setIfInBounds_toArray, List.set_cons_zero, List.set_cons_succ]
                  refine takeL (i := 21) (v := ?_) rfl (by kernel_rfl) (by kernel_rfl) (by kernel_rfl) (fun _ _ _ h => h) (by rfl) (fun wS hSw => ?_) hHeld ?_
                  rotate_left
                  · have s1 := (Below.cell hSw (p := ⟨bl, ol + k3, none⟩) hlb).trans cy; go_simp; try with_reducible rfl
                  try simp only [Act.put, List.setIfInBounds_toArray, List.set_cons_zero, List.set_cons_succ]
                  refine takeL (i := 22) (v := ?_) rfl (by kernel_rfl) (by kernel_rfl) (by kernel_rfl) (fun _ _ _ h => h) (by rfl) (fun wS hSw => ?_) hHeld ?_
                  rotate_left
                  · go_simp; try with_reducible rfl
                  try simp only [Act.put, List.setIfInBounds_toArray, List.set_cons_zero, List.set_cons_succ]
                  refine takeL (i := 23) (v := ?_) rfl (by kernel_rfl) (by kernel_rfl) (by kernel_rfl) (fun _ _ _ h => h) (by rfl) (fun wS hSw => ?_) hHeld ?_
                  rotate_left
                  · have s1 := (Below.cell hSw (p := ⟨bf, of_ + yi, none⟩) hlf).trans fyc; go_simp; try with_reducible rfl
                  try simp only [Act.put, List.setIfInBounds_toArray, List.set_cons_zero, List.set_cons_succ]
                  refine wpAnyH_ready (rs := [24]) (by kernel_rfl) (by simp) (consL (i := 24) rfl (fun K hK => ?_) AllReadyH.nil)
                  go_simp
                  refine (conflict_ok _ D D _ _ fx fy (RdK.below HXX.out.1 hHeld) (RdK.below HXX.out.2.1 hHeld) (by have := HXX.out.2.2.1; omega) (by have := HXX.out.2.2.2.1; omega)).mono ?_
                  rintro e wn ⟨r, hr, rfl, hbn⟩
                  obtain rfl : r = false := Bool.eq_false_iff.2 (fun hh => HXX.out.2.2.2.2 (hr.1 hh))
                  clear hr
                  try go_simp
                  refine hK.out _ _ (hHeld.trans (hbn.mono hHeld.size)) (fun hHeld2 => ?_)
                  clear hK K hHeld
                  have hHeld := hHeld2
                  clear hHeld2
                  try simp only [Act.put, List.setIfInBounds_toArray, List.set_cons_zero, List.set_cons_succ]
                  refine takeL (i := 25) (v := ?_) rfl (by kernel_rfl) (by kernel_rfl) (by kernel_rfl) (fun _ _ _ h => h) (by rfl) (fun wS hSw => ?_) hHeld ?_
                  rotate_left
                  · go_simp; try with_reducible rfl
                  try simp only [Act.put, List.setIfInBounds_toArray, List.set_cons_zero, List.set_cons_succ]
                  refine wpAnyH_done (by kernel_rfl) ?_ _
                  clear cx cy fxc fyc hlb hlf
                  go_wp2_with fail
                  go_roundw
                  case rel => exact ⟨m4 + 1, by omega, by go_num, H5.out.1.below hHeld, H5.out.2.only (Only.of_below hHeld (fun _ => False)) (fun _ _ => id)⟩
                  case measure => simp [intOf]; omega
                · have hm4' : m4 = k3 := by omega
                  subst hm4'
                  go_wp2_with fail
                  go_roundw
                  case rel => exact ⟨m4 + 1, by omega, by go_num, H5.out.1, H5.out.2⟩
                  case measure => simp [intOf]; omega
            · have hk3' : k3 = m := by omega
              subst hk3'
              obtain ⟨bv, hbv1, hbv2⟩ : ∃ bv : Int, (k < bs.length → bs[k]? = some bv) ∧ (¬ k < bs.length → bv = 0) := by
                by_cases hh : k < bs.length
                · exact ⟨_, fun _ => List.getElem?_eq_getElem hh, fun h => absurd hh h⟩
                · exact ⟨0, fun h => absurd h hh, fun _ => rfl⟩
              go_upto_if 140 with fail
              go_cut [11, 16] from 66 to 224 (fun s11 s16 wx => s11 = .int .i64 (k : Int) ∧ s16 = .int .i64 bv ∧ wx = w4)
              case first =>
                by_cases hkb : k < bs.length
                · obtain ⟨bb, ob, rfl, cb⟩ := HZ.out.2.1 k bv (hbv1 hkb)
                  have cb' := (H4.out.1.1.2.2.cell (p := ⟨bb, ob + k, none⟩) (World.block_lt_of_cell? _ _ cb)).trans cb
                  clear cb hbv1 hbv2
                  go_wp2_with fail
                  go_meet
                  exact ⟨rfl, rfl, rfl⟩
                · obtain rfl := hbv2 hkb
                  clear hbv1 hbv2
                  go_wp2_with fail
                  go_meet
                  exact ⟨rfl, rfl, rfl⟩
              case rest =>
                obtain ⟨rfl, rfl, rfl⟩ := hcut
                clear hbv1 hbv2
                obtain ⟨r0, j0, e00, e01, e02, e03, e04⟩ := idx_mod (x := bv) (n := (k3 : Int)) (by omega)
                obtain ⟨idz, hidz⟩ : ∃ a, rs[j0]? = some a := ⟨_, List.getElem?_eq_getElem (by rw [H3.out.2.2.2.1]; omega)⟩
                have hidr : idz ∈ ready lk := by rw [H3.out.2.2.1]; exact List.mem_of_getElem? hidz
                obtain ⟨ii, fi, hii, rfl, hil, him⟩ := HV.out.2.1.ready_at HG.out.2.1 hidr
                obtain ⟨bl, ol, rfl, ci⟩ := H4.out.2.ints_at.2 j0 _ hidz
                have HI := Lib.hid (And.intro hidz (And.intro hidr (And.intro hil him)))
                clear hidz hidr hil him
                have hj0 : j0 < k3 := by omega
                go_upto_region 40 with fail
                clear ci e00 e01 e02 e03 e04 hj0
                go_wp2_with fail
                refine (rel_ok wc F D b n2 sm la lk (ii : Int) H4.out.1.1.1 (by omega) (by omega) (by unfold I64; omega)).mono ?_
                intro e w5 hq
                obtain ⟨rfl, hoF, hx5⟩ := hq.yes H4.out.1.1 HI.out.2.1
                have H5 := Lib.hid (And.intro (H4.out.1.rel hoF hx5) (H4.out.1.rdN HV.out.1.2.2.2.1 H4.out.2 hoF))
                clear hq hoF hx5
                have hlo := outL_le lk (ii : Int)
                go_wp2_with fail
                refine (rel_ok w5 F D b _ sm la (outL lk (ii : Int)) (ii : Int) H5.out.1.1.1 (by omega) (by omega) (by unfold I64; omega)).mono ?_
                intro e w6 hq
                obtain ⟨rfl, hoF, hx6⟩ := hq.no H5.out.1.1 (out_not _)
                have H6 := Lib.hid (And.intro (H5.out.1.rel hoF hx6) (H5.out.1.rdN HV.out.1.2.2.2.1 H5.out.2 hoF))
                clear hq hoF hx6 H5
                go_wp2_with fail
                go_loopw [18] (fun i w7 => ∃ m5 : Nat, m5 ≤ outs.length ∧ i = .int .i64 (m5 : Int) ∧ GoS w0 wK F D b sm la l (outL lk (ii : Int)) (n2 + lk.length) (.slice Av l.length cv) (.slice Ao outs.length co) outs w7 ∧ Rd w7 (fun k => w2.heap.size ≤ k) (.slice (some ⟨bl, ol, none⟩) k3 c3) (rs.map (Value.int .i64))) (fun i _ => outs.length - (intOf i).toNat)
                case atStart => exact ⟨0, Nat.zero_le _, rfl, H6.out.1, H6.out.2⟩
                case round =>
                  obtain ⟨m5, hm5, rfl, hg7, hr7⟩ := hrel
                  rename World => w7
                  have H7 := Lib.hid (And.intro hg7 hr7)
                  clear hg7 hr7
                  by_cases hlt5 : m5 < outs.length
                  · obtain ⟨oz, hoz⟩ : ∃ x, outs[m5]? = some x := ⟨_, List.getElem?_eq_getElem hlt5⟩
                    obtain ⟨hon, fo, hfo, hfc⟩ := HV.out.2.1.2 oz (List.mem_of_getElem? hoz)
                    obtain ⟨oi, hoi, rfl, hol⟩ := GoInv.at_ HG.out.2.1 hfo
                    have hrdo := Rd.of_own (F := fun _ => True) H7.out.1.2.2.1 (fun _ _ => trivial)
                    obtain ⟨bo, oo, rfl, co_⟩ := hrdo.ints_at.2 m5 _ hoz
                    have hne : ¬ ((oi : Int) = (ii : Int)) := fun e => hon (by rw [e]; exact mem_nums.2 ⟨fi, HI.out.2.2.2⟩)
                    obtain ⟨bf, of_, Ax, cx', hAf, fxc, frx, flx⟩ := H7.out.1.2.1.at_ hol
                    obtain ⟨bf2, of2, Ay, cy', hAf2, fyc, fry, fly⟩ := H7.out.1.2.1.at_ HI.out.2.2.1
                    subst hAf
                    injection hAf2 with hAf2
                    injection hAf2 with hAf2 hAf3
                    subst hAf2 hAf3
                    have hlb := World.block_lt_of_cell? _ _ co_
                    have hlf := World.block_lt_of_cell? _ _ fxc
                    simp only at fxc fyc frx fry flx fly hlb hlf
                    have hnc : (ii : Int) < (oi : Int) → ¬ ConflP fo fi := fun hh => hfc _ HI.out.2.2.2 hh
                    have HXX := Lib.hid (And.intro frx (And.intro fry (And.intro flx (And.intro fly hnc))))
                    clear frx fry flx fly hnc hoz hol hfo hfc hon hrdo
                    have hneN : ¬ (oi = ii) := fun e => hne (by rw [e])
                    have hneb : ((oi : Int) == (ii : Int)) = false := by simpa using hne
                    by_cases hgt : (ii : Int) < (oi : Int)
                    · have hnc := HXX.out.2.2.2.2 hgt
                      have HNC := Lib.hid hnc
                      clear hnc
                      have hgtN : ii < oi := by omega
                      go_upto_region 45 with fail
                      refine wp_region_held_drew (S := (fun w' => Below w7.heap.size w7 w')) (by kernel_rfl) (Below.refl _ _).drew (fun hHeld => ?_)
                      refine takeL (i := 0) (v := ?_) rfl (by kernel_rfl) (by kernel_rfl) (by kernel_rfl) (fun _ _ _ h => h) (by rfl) (fun wS hSw => ?_) hHeld ?_
                      rotate_left
                      · go_simp; try with_reducible rfl
                      try simp only [Act.put, List.setIfInBounds_toArray, List.set_cons_zero, List.set_cons_succ]
                      refine takeL (i := 1) (v := ?_) rfl (by kernel_rfl) (by kernel_rfl) (by kernel_rfl) (fun _ _ _ h => h) (by rfl) (fun wS hSw => ?_) hHeld ?_
                      rotate_left
                      · go_simp; try with_reducible rfl
                      try simp only [Act.put, List.setIfInBounds_toArray, List.set_cons_zero, List.set_cons_succ]
                      refine takeL (i := 2) (v := ?_) rfl (by kernel_rfl) (by kernel_rfl) (by kernel_rfl) (fun _ _ _ h => h) (by rfl) (fun wS hSw => ?_) hHeld ?_
                      rotate_left
                      · go_simp; try with_reducible rfl
                      try simp only [Act.put, List.setIfInBounds_toArray, List.set_cons_zero, List.set_cons_succ]
                      refine takeL (i := 3) (v := ?_) rfl (by kernel_rfl) (by kernel_rfl) (by kernel_rfl) (fun _ _ _ h => h) (by rfl) (fun wS hSw => ?_) hHeld ?_
                      rotate_left
                      · have s1 := (Below.cell hSw (p := ⟨bo, oo + m5, none⟩) hlb).trans co_; go_simp; try with_reducible rfl
                      try simp only [Act.put, List.setIfInBounds_toArray, List.set_cons_zero, List.set_cons_succ]
                      refine takeL (i := 4) (v := ?_) rfl (by kernel_rfl) (by kernel_rfl) (by kernel_rfl) (fun _ _ _ h => h) (by rfl) (fun wS hSw => ?_) hHeld ?_
                      rotate_left
                      · go_simp; try with_reducible rfl
                      try simp only [Act.put, List.setIfInBounds_toArray, List.set_cons_zero, List.set_cons_succ]
                      refine takeL (i := 5) (v := .bool false) rfl (by kernel_rfl) (by kernel_rfl) (by kernel_rfl) (fun _ _ _ h => h) (by rfl) (fun wS hSw => ?_) hHeld ?_
                      · go_simp; first | done | (simp; omega) | (simp [*]; done) | omega
                      try simp only [Act.put, List.setIfInBounds_toArray, List.set_cons_zero, List.set_cons_succ]
                      refine takeL (i := 6) (v := ?_) rfl (by kernel_rfl) (by kernel_rfl) (by kernel_rfl) (fun _ _ _ h => h) (by rfl) (fun wS hSw => ?_) hHeld ?_
                      rotate_left
                      · go_simp; try with_reducible rfl
                      try simp only [Act.put, List.setIfInBounds_toArray, List.set_cons_zero, List.set_cons_succ]
                      refine takeL (i := 7) (v := ?_) rfl (by kernel_rfl) (by kernel_rfl) (by kernel_rfl) (fun _ _ _ h => h) (by rfl) (fun wS hSw => ?_) hHeld ?_
                      rotate_left
                      · go_simp; try with_reducible rfl
                      try simp only [Act.put, List.setIfInBounds_toArray, List.set_cons_zero, List.set_cons_succ]
                      refine takeL (i := 8) (v := ?_) rfl (by kernel_rfl) (by kernel_rfl) (by kernel_rfl) (fun _ _ _ h => h) (by rfl) (fun wS hSw => ?_) hHeld ?_
                      rotate_left
                      · go_simp; try with_reducible rfl
                      try simp only [Act.put, List.setIfInBounds_toArray, List.set_cons_zero, List.set_cons_succ]
                      refine takeL (i := 9) (v := ?_) rfl (by kernel_rfl) (by kernel_rfl) (by kernel_rfl) (fun _ _ _ h => h) (by rfl) (fun wS hSw => ?_) hHeld ?_
                      rotate_left
                      · go_simp; try with_reducible rfl
                      try simp only [Act.put, List.setIfInBounds_toArray, List.set_cons_zero, List.set_cons_succ]
                      refine takeL (i := 10) (v := ?_) rfl (by kernel_rfl) (by kernel_rfl) (by kernel_rfl) (fun _ _ _ h => h) (by rfl) (fun wS hSw => ?_) hHeld ?_
                      rotate_left
                      · have s1 := (Below.cell hSw (p := ⟨bo, oo + m5, none⟩) hlb).trans co_; go_simp; try with_reducible rfl
                      try simp only [Act.put, List.setIfInBounds_toArray, List.set_cons_zero, List.set_cons_succ]
                      refine takeL (i := 11) (v := ?_) rfl (by kernel_rfl) (by kernel_rfl) (by kernel_rfl) (fun _ _ _ h => h) (by rfl) (fun wS hSw => ?_) hHeld ?_
                      rotate_left
                      · go_simp; try with_reducible rfl
                      try simp only [Act.put, List.setIfInBounds_toArray, List.set_cons_zero, List.set_cons_succ]
                      refine takeL (i := 12) (v := .bool true) rfl (by kernel_rfl) (by kernel_rfl) (by kernel_rfl) (fun _ _ _ h => h) (by rfl) (fun wS hSw => ?_) hHeld ?_
                      · go_simp; first | done | (simp; omega) | (simp [*]; done) | omega
                      try simp only [Act.put, List.setIfInBounds_toArray, List.set_cons_zero, List.set_cons_succ]
                      refine takeL (i := 13) (v := ?_) rfl (by kernel_rfl) (by kernel_rfl) (by kernel_rfl) (fun _ _ _ h => h) (by rfl) (fun wS hSw => ?_) hHeld ?_
                      rotate_left
                      · go_simp; try with_reducible rfl
                      try simp only [Act.put, List.setIfInBounds_toArray, List.set_cons_zero, List.set_cons_succ]
                      refine takeL (i := 14) (v := ?_) rfl (by kernel_rfl) (by kernel_rfl) (by kernel_rfl) (fun _ _ _ h => h) (by rfl) (fun wS hSw => ?_) hHeld ?_
                      rotate_left
                      · go_simp; try with_reducible rfl
                      try simp only [Act.put, List.setIfInBounds_toArray, List.set_cons_zero, List.set_cons_succ]
                      refine takeL (i := 15) (v := ?_) rfl (by kernel_rfl) (by kernel_rfl) (by kernel_rfl) (fun _ _ _ h => h) (by rfl) (fun wS hSw => ?_) hHeld ?_
                      rotate_left
                      · go_simp; try with_reducible rfl
                      try simp only [Act.put, List.setIfInBounds_toArray, List.set_cons_zero, List.set_cons_succ]
                      refine takeL (i := 16) (v := ?_) rfl (by kernel_rfl) (by kernel_rfl) (by kernel_rfl) (fun _ _ _ h => h) (by rfl) (fun wS hSw => ?_) hHeld ?_
                      rotate_left
                      · go_simp; try with_reducible rfl
                      try simp only [Act.put, List.setIfInBounds_toArray, List.set_cons_zero, List.set_cons_succ]
                      refine takeL (i := 17) (v := ?_) rfl (by kernel_rfl) (by kernel_rfl) (by kernel_rfl) (fun _ _ _ h => h) (by rfl) (fun wS hSw => ?_) hHeld ?_
                      rotate_left
                      · go_simp; try with_reducible rfl
                      try simp only [Act.put, List.setIfInBounds_toArray, List.set_cons_zero, List.set_cons_succ]
                      refine takeL (i := 18) (v := ?_) rfl (by kernel_rfl) (by kernel_rfl) (by kernel_rfl) (fun _ _ _ h => h) (by rfl) (fun wS hSw => ?_) hHeld ?_
                      rotate_left
                      · have s1 := (Below.cell hSw (p := ⟨bo, oo + m5, none⟩) hlb).trans co_; go_simp; try with_reducible rfl
                      try simp only [Act.put, List.setIfInBounds_toArray, List.set_cons_zero, List.set_cons_succ]
                      refine takeL (i := 19) (v := ?_) rfl (by kernel_rfl) (by kernel_rfl) (by kernel_rfl) (fun _ _ _ h => h) (by rfl) (fun wS hSw => ?_) hHeld ?_
                      rotate_left
                      · go_simp; try with_reducible rfl
                      try simp only [Act.put, List.setIfInBounds_toArray, List.set_cons_zero, List.set_cons_succ]
                      refine takeL (i := 20) (v := ?_) rfl (by kernel_rfl) (by kernel_rfl) (by kernel_rfl) (fun _ _ _ h => h) (by rfl) (fun wS hSw => ?_) hHeld ?_
                      rotate_left
                      · have s1 := (Below.cell hSw (p := ⟨bf, of_ + oi, none⟩) hlf).trans fxc; go_simp; try with_reducible rfl
                      try simp only [Act.put, List.setIfInBounds_toArray, List.set_cons_zero, List.set_cons_succ]
                      refine takeL (i := 21) (v := ?_) rfl (by kernel_rfl) (by kernel_rfl) (by kernel_rfl) (fun _ _ _ h => h) (by rfl) (fun wS hSw => ?_) hHeld ?_
                      rotate_left
                      · go_simp; try with_reducible rfl
                      try simp only [Act.put, List.setIfInBounds_toArray, List.set_cons_zero, List.set_cons_succ]
                      refine takeL (i := 22) (v := ?_) rfl (by kernel_rfl) (by kernel_rfl) (by kernel_rfl) (fun _ _ _ h => h) (by rfl) (fun wS hSw => ?_) hHeld ?_
                      rotate_left
                      · go_simp; try with_reducible rfl
                      try simp only [Act.put, List.setIfInBounds_toArray, List.set_cons_zero, List.set_cons_succ]
                      refine takeL (i := 23) (v := ?_) rfl (by kernel_rfl) (by kernel_rfl) (by kernel_rfl) (fun _ _ _ h => h) (by rfl) (fun wS hSw => ?_) hHeld ?_
                      rotate_left
                      · go_simp; try with_reducible rfl
                      try simp only [Act.put, List.setIfInBounds_toArray, List.set_cons_zero, List.set_cons_succ]
                      refine takeL (i := 24) (v := ?_) rfl (by kernel_rfl) (by kernel_rfl) (by kernel_rfl) (fun _ _ _ h => h) (by rfl) (fun wS hSw => ?_) hHeld ?_
                      rotate_left
                      · have s1 := (Below.cell hSw (p := ⟨bf, of_ + ii, none⟩) hlf).trans fyc; go_simp; try with_reducible rfl
                      try simp only [Act.put, List.setIfInBounds_toArray, List.set_cons_zero, List.set_cons_succ]
                      refine wpAnyH_ready (rs := [25]) (by kernel_rfl) (by simp) (consL (i := 25) rfl (fun K hK => ?_) AllReadyH.nil)
                      go_simp
                      refine (conflict_ok _ D D _ _ fo fi (RdK.below HXX.out.1 hHeld) (RdK.below HXX.out.2.1 hHeld) (by have := HXX.out.2.2.1; omega) (by have := HXX.out.2.2.2.1; omega)).mono ?_
                      rintro e wn ⟨r, hr, rfl, hbn⟩
                      obtain rfl : r = false := Bool.eq_false_iff.2 (fun hh => HNC.out (hr.1 hh))
                      clear hr
                      try go_simp
                      refine hK.out _ _ (hHeld.trans (hbn.mono hHeld.size)) (fun hHeld2 => ?_)
                      clear hK K hHeld
                      have hHeld := hHeld2
                      clear hHeld2
                      try simp only [Act.put, List.setIfInBounds_toArray, List.set_cons_zero, List.set_cons_succ]
                      refine takeL (i := 26) (v := ?_) rfl (by kernel_rfl) (by kernel_rfl) (by kernel_rfl) (fun _ _ _ h => h) (by rfl) (fun wS hSw => ?_) hHeld ?_
                      rotate_left
                      · go_simp; try with_reducible rfl
                      try simp only [Act.put, List.setIfInBounds_toArray, List.set_cons_zero, List.set_cons_succ]
                      refine takeL (i := 27) (v := ?_) rfl (by kernel_rfl) (by kernel_rfl) (by kernel_rfl) (fun _ _ _ h => h) (by rfl) (fun wS hSw => ?_) hHeld ?_
                      rotate_left
                      · go_simp; try with_reducible rfl
                      try simp only [Act.put, List.setIfInBounds_toArray, List.set_cons_zero, List.set_cons_succ]
                      refine wpAnyH_done (by kernel_rfl) ?_ _
                      clear co_ fxc fyc hlb hlf
                      go_wp2_with fail
                      go_roundw
                      case rel => exact ⟨m5 + 1, by omega, by go_num, H7.out.1.below hHeld, H7.out.2.only (Only.of_below hHeld (fun _ => False)) (fun _ _ => id)⟩
                      case measure => simp [intOf]; omega
                    · have hgtN : ¬ (ii < oi) := by omega
                      have hgtL : (oi : Int) ≤ (ii : Int) := by omega
                      go_upto_region 45 with fail
                      refine wp_region_held_drew (S := (fun w' => Below w7.heap.size w7 w')) (by kernel_rfl) (Below.refl _ _).drew (fun hHeld => ?_)
                      refine takeL (i := 0) (v := ?_) rfl (by kernel_rfl) (by kernel_rfl) (by kernel_rfl) (fun _ _ _ h => h) (by rfl) (fun wS hSw => ?_) hHeld ?_
                      rotate_left
                      · go_simp; try with_reducible rfl
                      try simp only [Act.put, List.setIfInBounds_toArray, List.set_cons_zero, List.set_cons_succ]
                      refine takeL (i := 1) (v := ?_) rfl (by kernel_rfl) (by kernel_rfl) (by kernel_rfl) (fun _ _ _ h => h) (by rfl) (fun wS hSw => ?_) hHeld ?_
                      rotate_left
                      · go_simp; try with_reducible rfl
                      try simp only [Act.put, List.setIfInBounds_toArray, List.set_cons_zero, List.set_cons_succ]
                      refine takeL (i := 2) (v := ?_) rfl (by kernel_rfl) (by kernel_rfl) (by kernel_rfl) (fun _ _ _ h => h) (by rfl) (fun wS hSw => ?_) hHeld ?_
                      rotate_left
                      · go_simp; try with_reducible rfl
                      try simp only [Act.put, List.setIfInBounds_toArray, List.set_cons_zero, List.set_cons_succ]
                      refine takeL (i := 3) (v := ?_) rfl (by kernel_rfl) (by kernel_rfl) (by kernel_rfl) (fun _ _ _ h => h) (by rfl) (fun wS hSw => ?_) hHeld ?_
                      rotate_left
                      · have s1 := (Below.cell hSw (p := ⟨bo, oo + m5, none⟩) hlb).trans co_; go_simp; try with_reducible rfl
                      try simp only [Act.put, List.setIfInBounds_toArray, List.set_cons_zero, List.set_cons_succ]
                      refine takeL (i := 4) (v := ?_) rfl (by kernel_rfl) (by kernel_rfl) (by kernel_rfl) (fun _ _ _ h => h) (by rfl) (fun wS hSw => ?_) hHeld ?_
                      rotate_left
                      · go_simp; try with_reducible rfl
                      try simp only [Act.put, List.setIfInBounds_toArray, List.set_cons_zero, List.set_cons_succ]
                      refine takeL (i := 5) (v := .bool false) rfl (by kernel_rfl) (by kernel_rfl) (by kernel_rfl) (fun _ _ _ h => h) (by rfl) (fun wS hSw => ?_) hHeld ?_
                      · go_simp; first | done | (simp; omega) | (simp [*]; done) | omega
                      try simp only [Act.put, List.setIfInBounds_toArray, List.set_cons_zero, List.set_cons_succ]
                      refine takeL (i := 6) (v := ?_) rfl (by kernel_rfl) (by kernel_rfl) (by kernel_rfl) (fun _ _ _ h => h) (by rfl) (fun wS hSw => ?_) hHeld ?_
                      rotate_left
                      · go_simp; try with_reducible rfl
                      try simp only [Act.put, List.setIfInBounds_toArray, List.set_cons_zero, List.set_cons_succ]
                      refine takeL (i := 7) (v := ?_) rfl (by kernel_rfl) (by kernel_rfl) (by kernel_rfl) (fun _ _ _ h => h) (by rfl) (fun wS hSw => ?_) hHeld ?_
                      rotate_left
                      · go_simp; try with_reducible rfl
                      try simp only [Act.put, List.setIfInBounds_toArray, List.set_cons_zero, List.set_cons_succ]
                      refine takeL (i := 8) (v := ?_) rfl (by kernel_rfl) (by kernel_rfl) (by kernel_rfl) (fun _ _ _ h => h) (by rfl) (fun wS hSw => ?_) hHeld ?_
                      rotate_left
                      · go_simp; try with_reducible rfl
                      try simp only [Act.put, List.setIfInBounds_toArray, List.set_cons_zero, List.set_cons_succ]
                      refine takeL (i := 9) (v := ?_) rfl (by kernel_rfl) (by kernel_rfl) (by kernel_rfl) (fun _ _ _ h => h) (by rfl) (fun wS hSw => ?_) hHeld ?_
                      rotate_left
                      · go_simp; try with_reducible rfl
                      try simp only [Act.put, List.setIfInBounds_toArray, List.set_cons_zero, List.set_cons_succ]
                      refine takeL (i := 10) (v := ?_) rfl (by kernel_rfl) (by kernel_rfl) (by kernel_rfl) (fun _ _ _ h => h) (by rfl) (fun wS hSw => ?_) hHeld ?_
                      rotate_left
                      · have s1 := (Below.cell hSw (p := ⟨bo, oo + m5, none⟩) hlb).trans co_; go_simp; try with_reducible rfl
                      try simp only [Act.put, List.setIfInBounds_toArray, List.set_cons_zero, List.set_cons_succ]
                      refine takeL (i := 11) (v := ?_) rfl (by kernel_rfl) (by kernel_rfl) (by kernel_rfl) (fun _ _ _ h => h) (by rfl) (fun wS hSw => ?_) hHeld ?_
                      rotate_left
                      · go_simp; try with_reducible rfl
                      try simp only [Act.put, List.setIfInBounds_toArray, List.set_cons_zero, List.set_cons_succ]
                      refine takeL (i := 12) (v := .bool false) rfl (by kernel_rfl) (by kernel_rfl) (by kernel_rfl) (fun _ _ _ h => h) (by rfl) (fun wS hSw => ?_) hHeld ?_
                      · go_simp; first | done | (simp; omega) | (simp [*]; done) | omega
                      try simp only [Act.put, List.setIfInBounds_toArray, List.set_cons_zero, List.set_cons_succ]
                      refine takeL (i := 13) (v := ?_) rfl (by kernel_rfl) (by kernel_rfl) (by kernel_rfl) (fun _ _ _ h => h) (by rfl) (fun wS hSw => ?_) hHeld ?_
                      rotate_left
                      · go_simp; try with_reducible rfl
                      try simp only [Act.put, List.setIfInBounds_toArray, List.set_cons_zero, List.set_cons_succ]
                      refine take_no (i := 14) rfl (by kernel_rfl) (by kernel_rfl) (by kernel_rfl) (fun _ _ _ h => h) (by rfl) hHeld ?_
                      try simp only [Act.put, List.setIfInBounds_toArray, List.set_cons_zero, List.set_cons_succ]
                      refine take_no (i := 15) rfl (by kernel_rfl) (by kernel_rfl) (by kernel_rfl) (fun _ _ _ h => h) (by rfl) hHeld ?_
                      try simp only [Act.put, List.setIfInBounds_toArray, List.set_cons_zero, List.set_cons_succ]
                      refine take_no (i := 16) rfl (by kernel_rfl) (by kernel_rfl) (by kernel_rfl) (fun _ _ _ h => h) (by rfl) hHeld ?_
                      try simp only [Act.put, List.setIfInBounds_toArray, List.set_cons_zero, List.set_cons_succ]
                      refine take_no (i := 17) rfl (by kernel_rfl) (by kernel_rfl) (by kernel_rfl) (fun _ _ _ h => h) (by rfl) hHeld ?_
                      try simp only [Act.put, List.setIfInBounds_toArray, List.set_cons_zero, List.set_cons_succ]
                      refine take_no (i := 18) rfl (by kernel_rfl) (by kernel_rfl) (by kernel_rfl) (fun _ _ _ h => h) (by rfl) hHeld ?_
                      try simp only [Act.put, List.setIfInBounds_toArray, List.set_cons_zero, List.set_cons_succ]
                      refine take_no (i := 19) rfl (by kernel_rfl) (by kernel_rfl) (by kernel_rfl) (fun _ _ _ h => h) (by rfl) hHeld ?_
                      try simp only [Act.put, List.setIfInBounds_toArray, List.set_cons_zero, List.set_cons_succ]
                      refine take_no (i := 20) rfl (by kernel_rfl) (by kernel_rfl) (by kernel_rfl) (fun _ _ _ h => h) (by rfl) hHeld ?_
                      try simp only [Act.put, List.setIfInBounds_toArray, List.set_cons_zero, List.set_cons_succ]
                      refine take_no (i := 21) rfl (by kernel_rfl) (by kernel_rfl) (by kernel_rfl) (fun _ _ _ h => h) (by rfl) hHeld ?_
                      try simp only [Act.put, List.setIfInBounds_toArray, List.set_cons_zero, List.set_cons_succ]
                      refine take_no (i := 22) rfl (by kernel_rfl) (by kernel_rfl) (by kernel_rfl) (fun _ _ _ h => h) (by rfl) hHeld ?_
                      try simp only [Act.put, List.setIfInBounds_toArray, List.set_cons_zero, List.set_cons_succ]
                      refine take_no (i := 23) rfl (by kernel_rfl) (by kernel_rfl) (by kernel_rfl) (fun _ _ _ h => h) (by rfl) hHeld ?_
                      try simp only [Act.put, List.setIfInBounds_toArray, List.set_cons_zero, List.set_cons_succ]
                      refine take_no (i := 24) rfl (by kernel_rfl) (by kernel_rfl) (by kernel_rfl) (fun _ _ _ h => h) (by rfl) hHeld ?_
                      try simp only [Act.put, List.setIfInBounds_toArray, List.set_cons_zero, List.set_cons_succ]
                      refine take_no (i := 25) rfl (by kernel_rfl) (by kernel_rfl) (by kernel_rfl) (fun _ _ _ h => h) (by rfl) hHeld ?_
                      try simp only [Act.put, List.setIfInBounds_toArray, List.set_cons_zero, List.set_cons_succ]
                      refine takeL (i := 26) (v := ?_) rfl (by kernel_rfl) (by kernel_rfl) (by kernel_rfl) (fun _ _ _ h => h) (by rfl) (fun wS hSw => ?_) hHeld ?_
                      rotate_left
                      · go_simp; try with_reducible rfl
                      try simp only [Act.put, List.setIfInBounds_toArray, List.set_cons_zero, List.set_cons_succ]
                      refine takeL (i := 27) (v := ?_) rfl (by kernel_rfl) (by kernel_rfl) (by kernel_rfl) (fun _ _ _ h => h) (by rfl) (fun wS hSw => ?_) hHeld ?_
                      rotate_left
                      · go_simp; try with_reducible rfl
                      try simp only [Act.put, List.setIfInBounds_toArray, List.set_cons_zero, List.set_cons_succ]
                      refine wpAnyH_done (by kernel_rfl) ?_ _
                      clear co_ fxc fyc hlb hlf
                      go_wp2_with fail
                      go_roundw
                      case rel => exact ⟨m5 + 1, by omega, by go_num, H7.out.1.below hHeld, H7.out.2.only (Only.of_below hHeld (fun _ => False)) (fun _ _ => id)⟩
                      case measure => simp [intOf]; omega
                  · have hm5' : m5 = outs.length := by omega
                    subst hm5'
                    have hnews := World.news_of_block (heap_alloc_new w7 (.cells #[.int .i64 (ii : Int)] 3))
                    have hw7' := H7.out.1.2.2.1.alloc (.cells #[.int .i64 (ii : Int)] 3)
                    have hbsz := H7.out.1.2.2.2.1
                    have HW7 := Lib.hid (And.intro hnews hw7')
                    clear hnews hw7'
                    go_upto_region 48 with (at_builtin; go_loud (refine wpList_append_lies _ rfl _ _ 45 rfl wK.heap.size 3 i2 _ 1 8 Try.underlying45 HHI.out.2 hy0 hy1 hy2 rfl (by decide) (.slice Ao outs.length co) outs.length _ rfl HW7.out.2 ⟨w7.heap.size, 0, none⟩ 1 1 [.int .i64 (ii : Int)] rfl rfl HW7.out.1 (by simp [Value.oneCell']) (by decide) (by unfold maxLen; omega) (by omega) (by simp; omega) _ rfl ?_); intro g cap w8 hown8 hgrow8 hat8 hlt8)
                    obtain ⟨hg8, hon8⟩ := H7.out.1.app hown8 hgrow8
                    have hr8 : Rd w8 (fun k => w2.heap.size ≤ k) (.slice (some ⟨bl, ol, none⟩) k3 c3) (rs.map (Value.int .i64)) := H7.out.2.only hon8 (fun k hk e => by have := (HV.out.1.2.2.1.lt k e).2; omega)
                    have H8 := Lib.hid (And.intro hg8 hr8)
                    clear hown8 hgrow8 hat8 hlt8 hg8 hon8 hr8 HW7
                    go_wp2_with fail
                    refine (lkReady_ok w8 F D b _ sm la (outL lk (ii : Int)) H8.out.1.1.1 (by omega)).mono ?_
                    rintro e w9 ⟨v9, rfl, hf9⟩
                    obtain ⟨A9, c9, rfl, _⟩ := hf9.rd.ints_slice
                    have H9 := Lib.hid (And.intro (H8.out.1.below hf9.below) (And.intro (H8.out.2.below hf9.below) hf9.rd))
                    clear hf9 H8
                    obtain ⟨nx, hnx⟩ : ∃ nx, ready (outL lk (ii : Int)) = nx := ⟨_, rfl⟩
                    have hnl : nx.length ≤ 1000000 := by
                      have : (ready (outL lk (ii : Int))).length ≤ (outL lk (ii : Int)).length := by
                        unfold ready
                        refine Nat.le_trans (List.length_filter_le _ _) ?_
                        simp [nums]
                      rw [hnx] at this
                      omega
                    have hr9 := H9.out.2.2
                    rw [hnx] at hr9 ⊢
                    have H9b := Lib.hid (And.intro H9.out.1 (And.intro H9.out.2.1 hr9))
                    have HNX := Lib.hid hnx
                    clear H9 hr9 hnx
                    go_wp2_with fail
                    go_loopw [20] (fun i w10 => ∃ k6 : Nat, k6 ≤ k3 ∧ i = .int .i64 (k6 : Int) ∧ GoS w0 wK F D b sm la l (outL lk (ii : Int)) (n2 + lk.length) (.slice Av l.length cv) (.slice (some ⟨g, 0, none⟩) (outs.length + 1) cap) (outs ++ [(ii : Int)]) w10 ∧ Rd w10 (fun k => w2.heap.size ≤ k) (.slice (some ⟨bl, ol, none⟩) k3 c3) (rs.map (Value.int .i64)) ∧ Rd w10 (fun _ => True) (.slice A9 nx.length c9) (nx.map (Value.int .i64))) (fun i _ => k3 - (intOf i).toNat)
                    case atStart => exact ⟨0, Nat.zero_le _, rfl, H9b.out.1, H9b.out.2.1, H9b.out.2.2⟩
                    case round =>
                      obtain ⟨k6, hk6, rfl, hg10, hr10, hn10⟩ := hrel
                      rename World => w10
                      have H10 := Lib.hid (And.intro hg10 (And.intro hr10 hn10))
                      clear hg10 hr10 hn10
                      by_cases hlt6 : k6 < k3
                      · obtain ⟨y, hy⟩ : ∃ y, rs[k6]? = some y := ⟨_, List.getElem?_eq_getElem (by rw [H3.out.2.2.2.1]; exact hlt6)⟩
                        obtain ⟨_, _, he1, cy⟩ := H10.out.2.1.ints_at.2 k6 _ hy
                        injection he1 with he1
                        injection he1 with he1 he2
                        subst he1 he2
                        have HY := Lib.hid hy
                        clear hy
                        by_cases hyi : y = (ii : Int)
                        · go_wp2_with fail
                          go_roundw
                          case rel => exact ⟨k6 + 1, by omega, by go_num, H10.out.1, H10.out.2.1, H10.out.2.2⟩
                          case measure => simp [intOf]; omega
                        · have hin : y ∈ nx := by
                            rw [← HNX.out]
                            exact ready_out (by rw [H3.out.2.2.1]; exact List.mem_of_getElem? HY.out) hyi
                          have HIN := Lib.hid hin
                          clear hin
                          go_wp2_with fail
                          refine (in_ok w10 _ _ nx y H10.out.2.2 hnl).mono ?_
                          rintro e w11 ⟨r, hr, rfl, hb11⟩
                          obtain rfl : r = true := hr.2 HIN.out
                          have H11 := Lib.hid (And.intro (H10.out.1.below hb11) (And.intro (H10.out.2.1.below hb11) (H10.out.2.2.below hb11)))
                          clear hr hb11 cy
                          go_wp2_with fail
                          go_roundw
                          case rel => exact ⟨k6 + 1, by omega, by go_num, H11.out.1, H11.out.2.1, H11.out.2.2⟩
                          case measure => simp [intOf]; omega
                      · go_wp2_with fail
                        go_roundw
                        case rel =>
                          have hl1 := outL_len HV.out.1.1.1.line.1 (mem_ready.1 HI.out.2.1).1
                          have hl2 := HV.out.2.2.1
                          have hl3 := HV.out.2.2.2
                          exact ⟨k + 1, by omega, by go_num, outL lk (ii : Int), n2 + lk.length, outs ++ [(ii : Int)], some ⟨g, 0, none⟩, cap, by simp, H10.out.1, HV.out.2.1.step HV.out.1.1.1.line.1 HI.out.2.1, by omega, by omega, by simp; omega⟩
                        case measure => simp [intOf]; omega
        · have hk' : k = ls.length := by omega
          subst hk'
          have hle : lk = [] := List.eq_nil_of_length_eq_zero (by omega)
          subst hle
          clear hg hinv hlen hol
          go_wp2_with fail
          refine (lkLen_ok w2 F D b n2 sm la [] HV.out.1.1.1).mono ?_
          rintro e w3 ⟨rfl, rfl⟩
          go_wp2_with fail
          refine (lkReady_ok w2 F D b n2 sm la [] HV.out.1.1.1 (by simp)).mono ?_
          rintro e w4 ⟨v4, rfl, hf4⟩
          have hf5 : FreshI [] w2 v4 w4 := hf4
          obtain ⟨A4, c4, rfl, _⟩ := hf5.rd.ints_slice
          have HB4 := Lib.hid (HV.out.1.1.below hf5.below).2.2
          clear hf4 hf5
          go_wp2_with fail
          refine (awake10_ok _).mono ?_
          rintro e wq ⟨rfl, hb⟩
          have HB := Lib.hid (HB4.out.trans (hb.mono HB4.out.size))
          clear hb
          go_wp2_with fail
          go_ret
          exact ⟨rfl, HB.out⟩


set_option maxRecDepth 100000 in
theorem locksGo_lifted (os : Os) (started : os.Started) (H : Type) (enc : TypeId × Value → H) :
    ReturnsInHanded {} Try.checked os 10 .any (Rows.locksGoSpec.pre6 enc Try.prog Try.f10 Rows.locksGoRow.domain false) (Rows.locksGoSpec.post enc Try.prog Try.f10 false true false false) := by
  refine law_lifted os started H enc 10 Try.f10 Rows.locksGoSpec (by kernel_rfl) Try.func10 rfl (by kernel_rfl) ?_ ?_
    (ChangeSpec.witness6 (enc := enc) (C := Try.checked) false ⟨#[], #[.slice none 0 0, .slice none 0 0], []⟩ 8 (by kernel_rfl) (by kernel_rfl) (by kernel_rfl) (by kernel_rfl)) ?_
  · rw [Try.params10]
    intro t ht
    simp at ht
    rcases ht with rfl | rfl
    · exact ⟨by kernel_rfl, of_decide_eq_true (by kernel_rfl)⟩
    · exact ⟨by kernel_rfl, of_decide_eq_true (by kernel_rfl)⟩
  · intro ds hl
    rw [Try.params10] at hl
    match ds, hl with
    | [d1, d2], _ => exact ⟨rfl, rfl, rfl⟩
  · intro W base args ds p hval hA
    rw [Try.params10] at hA hval
    obtain ⟨v0, v1, d0, d1, p0, p1, hargs, rfl, rfl, h0, h1⟩ := trodAll_two hA
    subst hargs
    obtain ⟨x0, q0⟩ := open_rows (hval 0 44 v0 rfl rfl) h0
    obtain ⟨x1, q1⟩ := open_ints (hval 1 45 v1 rfl rfl) h1
    obtain ⟨q1, b1⟩ := q1
    by_cases hl : x0.length ≤ 20
    · by_cases hl2 : x1.length ≤ 20
      · exact lgo_ok W v0 v1 x0 x1 q0 q1 b1 hl hl2
      · exact lgo_far W v0 v1 x0 x1 q0 q1 (.inr ⟨hl, by omega⟩)
    · exact lgo_far W v0 v1 x0 x1 q0 q1 (.inl (by omega))

theorem locksGo_holds : Rows.LocksGoSaid :=
  OpenClaim.holds_of_wide 10 Try.f10 rfl rfl rfl rfl rfl rfl rfl ⟨rfl, rfl, rfl, rfl, rfl⟩ rfl rfl rfl rfl rfl (by kernel_rfl) Try.func10 (by kernel_rfl)
    (of_decide_eq_true (by kernel_rfl)) (by unfold Func.isWrapper; rw [if_neg (of_decide_eq_false (by kernel_rfl))]; exact ⟨rfl, rfl⟩)
    (fun os started H enc _ => locksGo_lifted os started H enc)

#print axioms locksGo_holds

end Go.Proofs.Ytdmpdlpfanfjoaa
