/- The document's answer's reader: a whole entry (ref13.Read). -/
import Derived.Test.YtihjcfifakcpgaaGreatDoorRefW
import Derived.Deep.CutBlock
namespace Go.Proofs.YtihjcfifakcpgaaGreatDoor
set_option maxRecDepth 100000
open Go.RowKit

section
variable {w wr w' w1 : World} {B E R T : Nat} {A : Option Addr} {c : Nat} {bs : List UInt8} {id : Int} {vo va vc : Value} {lo : List POp} {la : List Int} {lc : List Cl} {st st' : Option (List UInt8)}
/-- A box of the call's own, beside what has been read. -/
structure Beside (w : World) (B E R : Nat) (A : Option Addr) (c : Nat) (bs : List UInt8) (id : Int) (vo va vc : Value) (lo : List POp) (la : List Int) (lc : List Cl) (st : Option (List UInt8)) (T : Nat) (t : TypeId) (cs : Array Value) (wr : World) : Prop where
  e : EAt w B E R A c bs id vo va vc lo la lc st wr
  box : wr.heap[T]? = some (.cells cs t (0, 0))
  n1 : ∀ g, vo.ownBlock = some g → ¬ g = T
  n2 : ∀ g, va.ownBlock = some g → ¬ g = T
  n3 : ∀ g, vc.ownBlock = some g → ¬ g = T
  far : E < T
theorem EAt.newbox (h : EAt w B E R A c bs id vo va vc lo la lc st wr) (cs : Array Value) (t : TypeId) : Beside w B E R A c bs id vo va vc lo la lc st wr.heap.size t cs (wr.alloc (.cells cs t)) :=
  ⟨h.under (one_box wr _), heap_alloc_new _ _, fun g hg => by have := (h.ops.lt g hg).2; omega, fun g hg => by have := (h.args.lt g hg).2; omega, fun g hg => by have := (h.cls.lt g hg).2; omega, h.lt⟩
theorem Beside.set {t : TypeId} {cs : Array Value} (h : Beside w B E R A c bs id vo va vc lo la lc st T t cs wr) (o : Nat) (v : Value) : Beside w B E R A c bs id vo va vc lo la lc st T t (cs.setIfInBounds o v) (wr.setCell ⟨T, o, none⟩ v) := by
  have hf := h.e.far
  have h2 := h.far
  exact ⟨h.e.only (Only.set1 wr T o v) (fun k e => by have e : k = T := e; omega) (by show ¬ B = T; omega) (by show ¬ E = T; omega) (by show ¬ R = T; omega) h.n1 h.n2 h.n3, by simp [World.setCell, Array.getElem?_modify, h.box], h.n1, h.n2, h.n3, h.far⟩
theorem Beside.read {t : TypeId} {cs : Array Value} (h : Beside w B E R A c bs id vo va vc lo la lc st T t cs wr) (ho : Only (fun k => k = B) wr w') (he : EAt w B E R A c bs id vo va vc lo la lc st' w') : Beside w B E R A c bs id vo va vc lo la lc st' T t cs w' := by
  have hf := h.e.far
  have h2 := h.far
  exact ⟨he, ho.heap h.box (by show ¬ T = B; omega), h.n1, h.n2, h.n3, h.far⟩
theorem Beside.at_ {t : TypeId} {cs : Array Value} (h : Beside w B E R A c bs id vo va vc lo la lc st T t cs wr) (o : Nat) {v : Value} (hv : cs[o]? = some v) : wr.cell? ⟨T, o, none⟩ = some v ∧ wr.frozen? ⟨T, o, none⟩ = false := by
  have hb := h.box
  constructor
  · simp [World.cell?, hb, hv]
  · simp [World.frozen?, hb]
theorem EAt.start (hr : RS w' (fun k => k < w.heap.size) B A c bs st) (hR : wr.heap[R]? = some (.cells #[.int .i64 0, .slice none 0 0, .slice none 0 0, .slice none 0 0] 39 (0, 0))) (ho : Only (fun k => k = B) wr w') (hb : Below w.heap.size w wr) (hN : w.heap.size ≤ R) (hRB : R < B) (id : Int) :
    EAt w B w'.heap.size R A c bs id (.slice none 0 0) (.slice none 0 0) (.slice none 0 0) [] [] [] st (w'.alloc (.cells #[.int .i64 id, .slice none 0 0, .slice none 0 0, .slice none 0 0] 39)) := by
  have hBl : B < w'.heap.size := hr.lt
  have hs : w.heap.size ≤ w'.heap.size := Nat.le_trans hb.size ho.size
  have hbl := one_box w' (.cells #[.int .i64 id, .slice none 0 0, .slice none 0 0, .slice none 0 0] 39)
  exact ⟨hr.below hbl, heap_alloc_new _ _, (Only.of_below hbl (fun _ => False)).heap (ho.heap hR (by show ¬ R = B; omega)) (fun h => h), World.ownsRow_nil _ _ _ _, World.ownsRow_nil _ _ _ _, World.ownsRow_nil _ _ _ _, (hb.trans (ho.belowN hb.size (fun k hk e => by omega))).trans (hbl.mono hs), hN, hRB, hBl⟩
theorem EAt.done (h : EAt w B E R A c bs id vo va vc lo la lc st wr) (v0 v1 v2 v3 : Value) :
    OpRd (((((wr.setCell ⟨R, 0, none⟩ v0).setCell ⟨R, 1, none⟩ v1).setCell ⟨R, 2, none⟩ v2).setCell ⟨R, 3, none⟩ v3).drew) (fun k => w.heap.size ≤ k) vo lo ∧
    Rd (((((wr.setCell ⟨R, 0, none⟩ v0).setCell ⟨R, 1, none⟩ v1).setCell ⟨R, 2, none⟩ v2).setCell ⟨R, 3, none⟩ v3).drew) (fun k => w.heap.size ≤ k) va (ivs la) ∧
    ClRd (((((wr.setCell ⟨R, 0, none⟩ v0).setCell ⟨R, 1, none⟩ v1).setCell ⟨R, 2, none⟩ v2).setCell ⟨R, 3, none⟩ v3).drew) (fun k => w.heap.size ≤ k) vc lc ∧
    Below w.heap.size w (((((wr.setCell ⟨R, 0, none⟩ v0).setCell ⟨R, 1, none⟩ v1).setCell ⟨R, 2, none⟩ v2).setCell ⟨R, 3, none⟩ v3).drew) := by
  have ho := (only4b wr R v0 v1 v2 v3).drew
  have hf := h.far
  have h1 := own_only h.ops ho (fun g hg e => own_blk_ne h.ops h.res (by decide) (e ▸ hg))
  have h2 := own_only h.args ho (fun g hg e => own_blk_ne h.args h.res (by decide) (e ▸ hg))
  have h3 := own_only h.cls ho (fun g hg e => own_blk_ne h.cls h.res (by decide) (e ▸ hg))
  exact ⟨RdK.of_own h1 (pops_len lo) (by decide) (fun g hg => (h1.lt g hg).1), Rd.of_own h2 (fun g hg => (h2.lt g hg).1), RdK.of_own h3 (cl_len lc) (by decide) (fun g hg => (h3.lt g hg).1), h.below.trans (ho.belowN h.below.size (fun k hk e => by have e : k = R := e; omega))⟩
end
def RdEntP (bs : List UInt8) (w : World) (e : Ending) (w' : World) : Prop :=
  ∃ x A1 c1 A2 c2 A3 c3 is, e = .returned (.tuple #[.agg #[.int .i64 x.id, .slice A1 x.ops.length c1, .slice A2 x.args.length c2, .slice A3 x.cls.length c3], .bool is]) ∧ (OpRd w' (fun k => w.heap.size ≤ k) (.slice A1 x.ops.length c1) x.ops ∧ Rd w' (fun k => w.heap.size ≤ k) (.slice A2 x.args.length c2) (ivs x.args) ∧ ClRd w' (fun k => w.heap.size ≤ k) (.slice A3 x.cls.length c3) x.cls ∧ Below w.heap.size w w') ∧ (is = true → rdEnt bs = some x) ∧ (is = false → rdEnt bs = none) ∧ x.ops.length ≤ 64 ∧ x.args.length ≤ 8 ∧ x.cls.length ≤ 64

set_option maxRecDepth 100000 in
set_option maxHeartbeats 8000000 in
theorem refReadE_ok (w : World) (A : Option Addr) (c : Nat) (bs : List UInt8) (h : Rd w (fun k => k < w.heap.size) (.slice A bs.length c) (bs.map B8)) (hlen : bs.length ≤ 1000) :
    Calls Tryz.prog 22 #[.slice A bs.length c] w (RdEntP bs w) := by
  obtain ⟨io, hio, ho0, ho1, ho2⟩ := info_parts Tryz.infoRop
  obtain ⟨ii, hii, hi0, hi1, hi2⟩ := info_parts Tryz.infoIntN
  obtain ⟨ic, hic, hc0, hc1, hc2⟩ := info_parts Tryz.info28
  have HI := Lib.hid (And.intro hio (And.intro hii hic))
  clear hio hii hic
  have hb1 := one_box w (.cells #[.int .i64 0, .slice none 0 0, .slice none 0 0, .slice none 0 0] 39)
  have hR0 := heap_alloc_new w (.cells #[.int .i64 0, .slice none 0 0, .slice none 0 0, .slice none 0 0] 39)
  have hrd0 := h.below hb1
  obtain ⟨wa, hwa⟩ : ∃ x, w.alloc (.cells #[.int .i64 0, .slice none 0 0, .slice none 0 0, .slice none 0 0] 39) = x := ⟨_, rfl⟩
  have hsa : wa.heap.size = w.heap.size + 1 := by rw [← hwa]; simp
  rw [hwa] at hb1 hR0 hrd0
  have hb2 := one_box wa (.cells #[.slice A bs.length c, .int .i64 0, .bool false] 99)
  have hB0 := heap_alloc_new wa (.cells #[.slice A bs.length c, .int .i64 0, .bool false] 99)
  have hR2 := (Only.of_below hb2 (fun _ => False)).heap hR0 (fun h => h)
  have hrd2 := hrd0.below hb2
  have hbb := hb1.trans (hb2.mono (by omega))
  have hrs : RS (wa.alloc (.cells #[.slice A bs.length c, .int .i64 0, .bool false] 99)) (fun k => k < w.heap.size) wa.heap.size A c bs (some bs) := ⟨0, false, hB0, Nat.zero_le _, rfl, hrd2, by show ¬ wa.heap.size < w.heap.size; omega⟩
  go_enter Tryz.func22, Tryz.ntmps22
  go_upto_region 2 with fail
  rw [← hsa]
  generalize (wa.alloc (.cells #[.slice A bs.length c, .int .i64 0, .bool false] 99)) = w2 at hrs hR2 hrd2 hbb ⊢
  obtain ⟨B, hB⟩ : ∃ x, wa.heap.size = x := ⟨_, rfl⟩
  rw [hB] at hrs ⊢
  obtain ⟨R, hRe⟩ : ∃ x, w.heap.size = x := ⟨_, rfl⟩
  rw [hRe] at hR2 ⊢
  have H2 := Lib.hid (And.intro hrs (And.intro hR2 (And.intro hbb (And.intro (show w.heap.size ≤ R by omega) (show R < B by omega)))))
  have HC := Lib.hid (refNumber_ok w2 _ B A c bs (some bs) hrs hlen)
  clear hb1 hR0 hrd0 hwa hsa hb2 hB0 hR2 hrd2 hbb hrs hB hRe h
  go_wp2_with fail
  refine HC.out.mono ?_
  rintro en w3 ⟨rfl, ho3, hr3⟩
  have hg3 := got_step rdUI 0 (some bs)
  generalize (stepR rdUI 0 (some bs)) = z3 at hr3 hg3 ⊢
  obtain ⟨id, s1⟩ := z3
  simp only at hr3 hg3
  have hE := EAt.start hr3 H2.out.2.1 ho3 H2.out.2.2.1 H2.out.2.2.2.1 H2.out.2.2.2.2 id
  have HG1 := Lib.hid hg3
  clear HC ho3 hr3 hg3 H2
  go_upto_region 3 with fail
  generalize w3.alloc (.cells #[.int .i64 id, .slice none 0 0, .slice none 0 0, .slice none 0 0] 39) = w4 at hE ⊢
  obtain ⟨E, hE0⟩ : ∃ x, w3.heap.size = x := ⟨_, rfl⟩
  rw [hE0] at hE ⊢
  clear hE0
  have HC := Lib.hid (hE.count 64 (by decide) hlen)
  clear hE
  go_wp2_with fail
  refine HC.out.mono ?_
  rintro en w5 ⟨n1, s2, rfl, hn1, hg2, hE, _⟩
  have HG2 := Lib.hid hg2
  have HE := Lib.hid hE
  have HN1 := Lib.hid hn1
  clear HC hg2 hE hn1
  go_upto_block 0 with fail
  go_cut [7, 8] from 21 to 57 (fun _ _ wx => ∃ xs vo st, EAt w B E R A c bs id vo (.slice none 0 0) (.slice none 0 0) xs [] [] st wx ∧ Got (rdMany rdOp n1) s2 xs st ∧ xs.length ≤ 64)
  case first =>
    have hn1 := HN1.out
    go_wp2_with fail
    go_loopw [7] (fun i wr => ∃ k : Nat, k ≤ n1 ∧ i = .int .i64 (k : Int) ∧ ∃ xs vo st, EAt w B E R A c bs id vo (.slice none 0 0) (.slice none 0 0) xs [] [] st wr ∧ Got (rdMany rdOp k) s2 xs st ∧ xs.length ≤ k) (fun i _ => n1 - (intOf i).toNat)
    case atStart => exact ⟨0, Nat.zero_le _, rfl, [], _, _, HE.out, Got.startN, Nat.le_refl _⟩
    case round =>
      obtain ⟨k, hk, rfl, xs, vo, st, hE, hG, hxl⟩ := hrel
      obtain ⟨at_, bad, k1, _, hn0, hs0, _, _⟩ := hE.rs.open_
      obtain ⟨⟨q0, q1, q2⟩, y0, y1, y2⟩ := blk3 k1
      clear k1 hn0
      by_cases hlt : k < n1
      · cases bad with
        | true =>
          obtain rfl : st = none := by
            cases st with
            | none => rfl
            | some q => exact absurd (hs0 q rfl).1 (by decide)
          have H := Lib.hid (And.intro hE (hG.stop hk))
          clear hE hG hs0
          go_wp2_with fail
          go_meet
          exact ⟨xs, vo, none, H.out.1, H.out.2, by omega⟩
        | false =>
          have HK := Lib.hid (And.intro hG hxl)
          clear hs0
          have HC := Lib.hid (hE.number hlen)
          clear hE hG
          go_wp2_with fail
          refine HC.out.mono ?_
          rintro en wa ⟨d, t1, rfl, hg1, hE1, _⟩
          have hbx := hE1.newbox #[.int .i64 d, .int .i64 0, .int .i64 0, .int .i64 0, .int .i64 0] 49
          have HG1 := Lib.hid hg1
          clear HC hg1 hE1
          clear q0 q1 q2 y0 y1 y2
          go_upto_region 8 with fail
          generalize wa.alloc (.cells #[.int .i64 d, .int .i64 0, .int .i64 0, .int .i64 0, .int .i64 0] 49) = wb1 at hbx ⊢
          obtain ⟨T, hT⟩ : ∃ x, wa.heap.size = x := ⟨_, rfl⟩
          rw [hT] at hbx ⊢
          clear hT
          have HC := Lib.hid (hbx.e.number hlen)
          have HB1 := Lib.hid hbx
          clear hbx
          go_wp2_with fail
          refine HC.out.mono ?_
          rintro en wc1 ⟨a, t2, rfl, hg, hE1, ho1⟩
          have hbx := HB1.out.read ho1 hE1
          have HG2 := Lib.hid hg
          have HB1' := Lib.hid hbx
          obtain ⟨z0, z1⟩ := hbx.at_ 1 rfl
          have hbx := hbx.set 1 (.int .i64 a)
          simp only [List.setIfInBounds_toArray, List.set_cons_zero, List.set_cons_succ] at hbx
          have HB12 := Lib.hid hbx
          clear HC hg hE1 ho1 hbx
          go_upto_region 9 with fail
          have hbx := HB12.out
          generalize wc1.setCell ⟨T, 1, none⟩ (.int .i64 a) = wb2 at hbx ⊢
          clear HB1 HB1' HB12 z0 z1
          have HC := Lib.hid (hbx.e.number hlen)
          have HB2 := Lib.hid hbx
          clear hbx
          go_wp2_with fail
          refine HC.out.mono ?_
          rintro en wc2 ⟨b, t3, rfl, hg, hE1, ho1⟩
          have hbx := HB2.out.read ho1 hE1
          have HG3 := Lib.hid hg
          have HB2' := Lib.hid hbx
          obtain ⟨z0, z1⟩ := hbx.at_ 2 rfl
          have hbx := hbx.set 2 (.int .i64 b)
          simp only [List.setIfInBounds_toArray, List.set_cons_zero, List.set_cons_succ] at hbx
          have HB22 := Lib.hid hbx
          clear HC hg hE1 ho1 hbx
          go_upto_region 10 with fail
          have hbx := HB22.out
          generalize wc2.setCell ⟨T, 2, none⟩ (.int .i64 b) = wb3 at hbx ⊢
          clear HB2 HB2' HB22 z0 z1
          have HC := Lib.hid (hbx.e.signed hlen)
          have HB3 := Lib.hid hbx
          clear hbx
          go_wp2_with fail
          refine HC.out.mono ?_
          rintro en wc3 ⟨c_, t4, rfl, hg, hE1, ho1⟩
          have hbx := HB3.out.read ho1 hE1
          have HG4 := Lib.hid hg
          have HB3' := Lib.hid hbx
          obtain ⟨z0, z1⟩ := hbx.at_ 3 rfl
          have hbx := hbx.set 3 (.int .i64 c_)
          simp only [List.setIfInBounds_toArray, List.set_cons_zero, List.set_cons_succ] at hbx
          have HB32 := Lib.hid hbx
          clear HC hg hE1 ho1 hbx
          go_upto_region 11 with fail
          have hbx := HB32.out
          generalize wc3.setCell ⟨T, 3, none⟩ (.int .i64 c_) = wb4 at hbx ⊢
          clear HB3 HB3' HB32 z0 z1
          have HC := Lib.hid (hbx.e.number hlen)
          have HB4 := Lib.hid hbx
          clear hbx
          go_wp2_with fail
          refine HC.out.mono ?_
          rintro en wc4 ⟨n, t5, rfl, hg, hE1, ho1⟩
          have hbx := HB4.out.read ho1 hE1
          have HG5 := Lib.hid hg
          have HB4' := Lib.hid hbx
          obtain ⟨z0, z1⟩ := hbx.at_ 4 rfl
          have hbx := hbx.set 4 (.int .i64 n)
          simp only [List.setIfInBounds_toArray, List.set_cons_zero, List.set_cons_succ] at hbx
          have HB42 := Lib.hid hbx
          clear HC hg hE1 ho1 hbx
          go_upto_region 12 with fail
          have hbx := HB42.out
          generalize wc4.setCell ⟨T, 4, none⟩ (.int .i64 n) = wb5 at hbx ⊢
          clear HB4 HB4' HB42 z0 z1
          have hE7 := hbx.e.under (one_box wb5 (.cells #[.int .i64 d, .int .i64 a, .int .i64 b, .int .i64 c_, .int .i64 n] 49))
          have hnews := World.news_of_block (heap_alloc_new wb5 (.cells #[.int .i64 d, .int .i64 a, .int .i64 b, .int .i64 c_, .int .i64 n] 49))
          obtain ⟨⟨x0, x1, x2, x3⟩, f0, f1, f2, f3⟩ := blk4 hbx.e.ent
          obtain ⟨z0, z1, z2, z3, z4⟩ := blk5 hbx.box
          obtain ⟨A5, c5, rfl⟩ := ownsRow_slice hE7.ops
          have HX := Lib.hid (And.intro hE7 (And.intro hnews hbx))
          clear hE7 hnews hbx
          go_upto_region 6 with (at_builtin; go_loud (refine wpList_append_lies _ rfl _ _ 37 rfl w.heap.size 49 io _ 5 40 Tryz.underlying37 HI.out.1 ho0 ho1 ho2 rfl (by decide) (.slice A5 xs.length c5) xs.length _ rfl HX.out.1.ops ⟨wb5.heap.size, 0, none⟩ 1 1 [.int .i64 d, .int .i64 a, .int .i64 b, .int .i64 c_, .int .i64 n] rfl rfl HX.out.2.1 (by simp [Value.oneCell']) (by decide) (by unfold maxLen; omega) (by omega) HX.out.1.below.size _ rfl ?_); intro g cap wz hown hgrow hat hglt; have hEz := (Only.of_grownBy hgrow).heap HX.out.1.ent (own_blk_ne HX.out.1.ops HX.out.1.ent (by decide)); obtain ⟨_, g0, g1, g2, g3⟩ := blk4 hEz; obtain ⟨⟨v0, v1, v2, v3⟩, _⟩ := blk4 hEz; have HZ := Lib.hid (And.intro hown hgrow); clear hown hgrow hat hglt hEz)
          clear z0 z1 z2 z3 z4 f0 f1 f2 f3 x0 x1 x2 x3
          have hE8 := HX.out.1.app_op (x := ⟨d, a, b, c_, n⟩) HZ.out.2 HZ.out.1
          have HE8 := Lib.hid hE8
          clear hE8
          go_wp2_with fail
          go_roundw
          case rel =>
            exact ⟨k + 1, by omega, by go_num, xs ++ [⟨d, a, b, c_, n⟩], _, t5, HE8.out, HK.out.1.more (Got.op HG1.out HG2.out HG3.out HG4.out HG5.out), by have := HK.out.2; simp; omega⟩
          case measure => simp [intOf]; omega
      · obtain rfl : k = n1 := by omega
        have H := Lib.hid (And.intro hE hG)
        clear hE hG hs0
        go_wp2_with fail
        go_meet
        exact ⟨xs, vo, st, H.out.1, H.out.2, by omega⟩
  case rest =>
    obtain ⟨xs, vo, st, hE, hG, hxl⟩ := hcut
    have HG3 := Lib.hid (Got.list HG2.out hG)
    have HXL := Lib.hid hxl
    clear HG2 hG HE HN1 hxl
    have HC := Lib.hid (hE.count 8 (by decide) hlen)
    clear hE
    go_wp2_with fail
    refine HC.out.mono ?_
    rintro en w6 ⟨n2, s3, rfl, hn2, hg2, hE, _⟩
    have HG4 := Lib.hid hg2
    have HE := Lib.hid hE
    have HN2 := Lib.hid hn2
    clear HC hg2 hE hn2
    go_upto_block 2 with fail
    go_cut [9] from 60 to 78 (fun _ wx => ∃ la va st', EAt w B E R A c bs id vo va (.slice none 0 0) xs la [] st' wx ∧ Got (rdMany rdI n2) s3 la st' ∧ la.length ≤ 8)
    case first =>
      have hn2 := HN2.out
      go_wp2_with fail
      go_loopw [9] (fun i wr => ∃ k : Nat, k ≤ n2 ∧ i = .int .i64 (k : Int) ∧ ∃ la va st', EAt w B E R A c bs id vo va (.slice none 0 0) xs la [] st' wr ∧ Got (rdMany rdI k) s3 la st' ∧ la.length ≤ k) (fun i _ => n2 - (intOf i).toNat)
      case atStart => exact ⟨0, Nat.zero_le _, rfl, [], _, _, HE.out, Got.startN, Nat.le_refl _⟩
      case round =>
        obtain ⟨k, hk, rfl, la, va, st', hE, hG, hxl⟩ := hrel
        obtain ⟨at_, bad, k1, _, hn0, hs0, _, _⟩ := hE.rs.open_
        obtain ⟨⟨q0, q1, q2⟩, y0, y1, y2⟩ := blk3 k1
        clear k1 hn0
        by_cases hlt : k < n2
        · cases bad with
          | true =>
            obtain rfl : st' = none := by
              cases st' with
              | none => rfl
              | some q => exact absurd (hs0 q rfl).1 (by decide)
            have H := Lib.hid (And.intro hE (hG.stop hk))
            clear hE hG hs0
            go_wp2_with fail
            go_meet
            exact ⟨la, va, none, H.out.1, H.out.2, by omega⟩
          | false =>
            have HK := Lib.hid (And.intro hG hxl)
            clear hs0
            obtain ⟨A6, c6, rfl⟩ := ownsRow_slice hE.args
            have hEd := hE.under (Below.refl wr.heap.size wr).drew
            have HC := Lib.hid (hEd.signed hlen)
            obtain ⟨⟨x0, x1, x2, x3⟩, f0, f1, f2, f3⟩ := blk4 hE.ent
            clear hE hG hEd
            go_upto_region 17 with fail
            refine wp_region_held_drew (S := fun _ => True) (by kernel_rfl) trivial (fun hHeld => ?_)
            refine take_lit (i := 0) (v := ?_) rfl (by kernel_rfl) (by kernel_rfl) (by kernel_rfl) (fun _ _ _ h => h) (by rfl) (fun wS hSw => ?_) hHeld ?_
            rotate_left
            · go_simp; try with_reducible rfl
            try simp only [Act.put, List.setIfInBounds_toArray, List.set_cons_zero, List.set_cons_succ]
            refine take_lit (i := 2) (v := ?_) rfl (by kernel_rfl) (by kernel_rfl) (by kernel_rfl) (fun _ _ _ h => h) (by rfl) (fun wS hSw => ?_) hHeld ?_
            rotate_left
            · go_simp; try with_reducible rfl
            try simp only [Act.put, List.setIfInBounds_toArray, List.set_cons_zero, List.set_cons_succ]
            refine wpAnyH_ready (rs := [1, 3]) (by kernel_rfl) (by simp) (cons_lit (i := 1) rfl (fun K hK => ?_) (cons_lit (i := 3) rfl (fun K hK => ?_) AllReadyH.nil))
            · skip
              go_simp
              refine hK.out _ _ trivial (fun hHeld2 => ?_)
              clear hK K
              try simp only [Act.put, List.setIfInBounds_toArray, List.set_cons_zero, List.set_cons_succ]
              refine wpAnyH_ready (rs := [3]) (by kernel_rfl) (by simp) (cons_lit (i := 3) rfl (fun K hK => ?_) AllReadyH.nil)
              go_simp
              refine HC.out.mono ?_
              rintro e wn ⟨d, t1, rfl, hg, hE1, _⟩
              try go_simp
              obtain ⟨⟨x0, x1, x2, x3⟩, f0, f1, f2, f3⟩ := blk4 hE1.ent
              have hE7 := hE1.under (one_box wn (.cells #[.int .i64 d] 3))
              have hnews := World.news_of_block (heap_alloc_new wn (.cells #[.int .i64 d] 3))
              have x7 := (blk4 hE7.ent).1.2.2.1
              have HX := Lib.hid (And.intro hE7 (And.intro hnews hg))
              clear hE7 hnews hg hE1
              refine hK.out _ _ trivial (fun hHeld2 => ?_)
              clear hK K
              try simp only [Act.put, List.setIfInBounds_toArray, List.set_cons_zero, List.set_cons_succ]
              refine wpAnyH_ready (rs := [4]) (by kernel_rfl) (by simp) (cons_lit (i := 4) rfl (fun K hK => ?_) AllReadyH.nil)
              go_simp
              refine hK.out _ _ trivial (fun hHeld2 => ?_)
              clear hK K
              try simp only [Act.put, List.setIfInBounds_toArray, List.set_cons_zero, List.set_cons_succ]
              refine wpAnyH_ready (rs := [5]) (by kernel_rfl) (by simp) (cons_lit (i := 5) rfl (fun K hK => ?_) AllReadyH.nil)
              (refine step_append_lies _ (by rfl) _ _ 23 (by rfl) w.heap.size 3 ii _ 1 8 Tryz.underlying23 HI.out.2.1 hi0 hi1 hi2 (by rfl) (by decide) (.slice A6 la.length c6) la.length _ (by rfl) HX.out.1.args ⟨wn.heap.size, 0, none⟩ 1 1 [.int .i64 d] (by rfl) (by rfl) HX.out.2.1 (by simp [Value.oneCell']) (by decide) (by unfold maxLen; omega) (by omega) HX.out.1.below.size _ (by rfl) ?_)
              intro g cap wz hown hgrow hat hglt
              have hEz := (Only.of_grownBy hgrow).heap HX.out.1.ent (own_blk_ne HX.out.1.args HX.out.1.ent (by decide))
              obtain ⟨⟨v0, v1, v2, v3⟩, g0, g1, g2, g3⟩ := blk4 hEz
              have HZ := Lib.hid (And.intro hown hgrow)
              clear hown hgrow hat hglt hEz
              refine hK.out _ _ trivial (fun hHeld2 => ?_)
              clear hK K
              try simp only [Act.put, List.setIfInBounds_toArray, List.set_cons_zero, List.set_cons_succ]
              refine take_lit (i := 6) (v := ?_) rfl (by kernel_rfl) (by kernel_rfl) (by kernel_rfl) (fun _ _ _ h => h) (by rfl) (fun wS hSw => ?_) hHeld ?_
              rotate_left
              · go_simp; try with_reducible rfl
              try simp only [Act.put, List.setIfInBounds_toArray, List.set_cons_zero, List.set_cons_succ]
              refine wpAnyH_ready (rs := [7]) (by kernel_rfl) (by simp) (cons_lit (i := 7) rfl (fun K hK => ?_) AllReadyH.nil)
              go_simp
              refine hK.out _ _ trivial (fun hHeld2 => ?_)
              clear hK K
              try simp only [Act.put, List.setIfInBounds_toArray, List.set_cons_zero, List.set_cons_succ]
              refine wpAnyH_done (by kernel_rfl) ?_ _
              have hE8 := HX.out.1.app_arg (x := d) HZ.out.2 HZ.out.1
              have HE8 := Lib.hid hE8
              clear hE8
              go_wp2_with fail
              go_roundw
              case rel =>
                exact ⟨k + 1, by omega, by go_num, la ++ [d], _, t1, HE8.out, HK.out.1.more HX.out.2.2, by have := HK.out.2; simp; omega⟩
              case measure => simp [intOf]; omega
            · skip
              go_simp
              refine HC.out.mono ?_
              rintro e wn ⟨d, t1, rfl, hg, hE1, _⟩
              try go_simp
              obtain ⟨⟨x0, x1, x2, x3⟩, f0, f1, f2, f3⟩ := blk4 hE1.ent
              have hE7 := hE1.under (one_box wn (.cells #[.int .i64 d] 3))
              have hnews := World.news_of_block (heap_alloc_new wn (.cells #[.int .i64 d] 3))
              have x7 := (blk4 hE7.ent).1.2.2.1
              have HX := Lib.hid (And.intro hE7 (And.intro hnews hg))
              clear hE7 hnews hg hE1
              refine hK.out _ _ trivial (fun hHeld2 => ?_)
              clear hK K
              try simp only [Act.put, List.setIfInBounds_toArray, List.set_cons_zero, List.set_cons_succ]
              refine wpAnyH_ready (rs := [1, 4]) (by kernel_rfl) (by simp) (cons_lit (i := 1) rfl (fun K hK => ?_) (cons_lit (i := 4) rfl (fun K hK => ?_) AllReadyH.nil))
              · skip
                go_simp
                refine hK.out _ _ trivial (fun hHeld2 => ?_)
                clear hK K
                try simp only [Act.put, List.setIfInBounds_toArray, List.set_cons_zero, List.set_cons_succ]
                refine wpAnyH_ready (rs := [4]) (by kernel_rfl) (by simp) (cons_lit (i := 4) rfl (fun K hK => ?_) AllReadyH.nil)
                go_simp
                refine hK.out _ _ trivial (fun hHeld2 => ?_)
                clear hK K
                try simp only [Act.put, List.setIfInBounds_toArray, List.set_cons_zero, List.set_cons_succ]
                refine wpAnyH_ready (rs := [5]) (by kernel_rfl) (by simp) (cons_lit (i := 5) rfl (fun K hK => ?_) AllReadyH.nil)
                (refine step_append_lies _ (by rfl) _ _ 23 (by rfl) w.heap.size 3 ii _ 1 8 Tryz.underlying23 HI.out.2.1 hi0 hi1 hi2 (by rfl) (by decide) (.slice A6 la.length c6) la.length _ (by rfl) HX.out.1.args ⟨wn.heap.size, 0, none⟩ 1 1 [.int .i64 d] (by rfl) (by rfl) HX.out.2.1 (by simp [Value.oneCell']) (by decide) (by unfold maxLen; omega) (by omega) HX.out.1.below.size _ (by rfl) ?_)
                intro g cap wz hown hgrow hat hglt
                have hEz := (Only.of_grownBy hgrow).heap HX.out.1.ent (own_blk_ne HX.out.1.args HX.out.1.ent (by decide))
                obtain ⟨⟨v0, v1, v2, v3⟩, g0, g1, g2, g3⟩ := blk4 hEz
                have HZ := Lib.hid (And.intro hown hgrow)
                clear hown hgrow hat hglt hEz
                refine hK.out _ _ trivial (fun hHeld2 => ?_)
                clear hK K
                try simp only [Act.put, List.setIfInBounds_toArray, List.set_cons_zero, List.set_cons_succ]
                refine take_lit (i := 6) (v := ?_) rfl (by kernel_rfl) (by kernel_rfl) (by kernel_rfl) (fun _ _ _ h => h) (by rfl) (fun wS hSw => ?_) hHeld ?_
                rotate_left
                · go_simp; try with_reducible rfl
                try simp only [Act.put, List.setIfInBounds_toArray, List.set_cons_zero, List.set_cons_succ]
                refine wpAnyH_ready (rs := [7]) (by kernel_rfl) (by simp) (cons_lit (i := 7) rfl (fun K hK => ?_) AllReadyH.nil)
                go_simp
                refine hK.out _ _ trivial (fun hHeld2 => ?_)
                clear hK K
                try simp only [Act.put, List.setIfInBounds_toArray, List.set_cons_zero, List.set_cons_succ]
                refine wpAnyH_done (by kernel_rfl) ?_ _
                have hE8 := HX.out.1.app_arg (x := d) HZ.out.2 HZ.out.1
                have HE8 := Lib.hid hE8
                clear hE8
                go_wp2_with fail
                go_roundw
                case rel =>
                  exact ⟨k + 1, by omega, by go_num, la ++ [d], _, t1, HE8.out, HK.out.1.more HX.out.2.2, by have := HK.out.2; simp; omega⟩
                case measure => simp [intOf]; omega
              · skip
                go_simp
                refine hK.out _ _ trivial (fun hHeld2 => ?_)
                clear hK K
                try simp only [Act.put, List.setIfInBounds_toArray, List.set_cons_zero, List.set_cons_succ]
                refine wpAnyH_ready (rs := [1]) (by kernel_rfl) (by simp) (cons_lit (i := 1) rfl (fun K hK => ?_) AllReadyH.nil)
                go_simp
                refine hK.out _ _ trivial (fun hHeld2 => ?_)
                clear hK K
                try simp only [Act.put, List.setIfInBounds_toArray, List.set_cons_zero, List.set_cons_succ]
                refine wpAnyH_ready (rs := [5]) (by kernel_rfl) (by simp) (cons_lit (i := 5) rfl (fun K hK => ?_) AllReadyH.nil)
                (refine step_append_lies _ (by rfl) _ _ 23 (by rfl) w.heap.size 3 ii _ 1 8 Tryz.underlying23 HI.out.2.1 hi0 hi1 hi2 (by rfl) (by decide) (.slice A6 la.length c6) la.length _ (by rfl) HX.out.1.args ⟨wn.heap.size, 0, none⟩ 1 1 [.int .i64 d] (by rfl) (by rfl) HX.out.2.1 (by simp [Value.oneCell']) (by decide) (by unfold maxLen; omega) (by omega) HX.out.1.below.size _ (by rfl) ?_)
                intro g cap wz hown hgrow hat hglt
                have hEz := (Only.of_grownBy hgrow).heap HX.out.1.ent (own_blk_ne HX.out.1.args HX.out.1.ent (by decide))
                obtain ⟨⟨v0, v1, v2, v3⟩, g0, g1, g2, g3⟩ := blk4 hEz
                have HZ := Lib.hid (And.intro hown hgrow)
                clear hown hgrow hat hglt hEz
                refine hK.out _ _ trivial (fun hHeld2 => ?_)
                clear hK K
                try simp only [Act.put, List.setIfInBounds_toArray, List.set_cons_zero, List.set_cons_succ]
                refine take_lit (i := 6) (v := ?_) rfl (by kernel_rfl) (by kernel_rfl) (by kernel_rfl) (fun _ _ _ h => h) (by rfl) (fun wS hSw => ?_) hHeld ?_
                rotate_left
                · go_simp; try with_reducible rfl
                try simp only [Act.put, List.setIfInBounds_toArray, List.set_cons_zero, List.set_cons_succ]
                refine wpAnyH_ready (rs := [7]) (by kernel_rfl) (by simp) (cons_lit (i := 7) rfl (fun K hK => ?_) AllReadyH.nil)
                go_simp
                refine hK.out _ _ trivial (fun hHeld2 => ?_)
                clear hK K
                try simp only [Act.put, List.setIfInBounds_toArray, List.set_cons_zero, List.set_cons_succ]
                refine wpAnyH_done (by kernel_rfl) ?_ _
                have hE8 := HX.out.1.app_arg (x := d) HZ.out.2 HZ.out.1
                have HE8 := Lib.hid hE8
                clear hE8
                go_wp2_with fail
                go_roundw
                case rel =>
                  exact ⟨k + 1, by omega, by go_num, la ++ [d], _, t1, HE8.out, HK.out.1.more HX.out.2.2, by have := HK.out.2; simp; omega⟩
                case measure => simp [intOf]; omega
        · obtain rfl : k = n2 := by omega
          have H := Lib.hid (And.intro hE hG)
          clear hE hG hs0
          go_wp2_with fail
          go_meet
          exact ⟨la, va, st', H.out.1, H.out.2, by omega⟩
    case rest =>
      obtain ⟨la, va, st', hE, hG, hxl⟩ := hcut
      have HG5 := Lib.hid (Got.list HG4.out hG)
      have HYL := Lib.hid hxl
      clear HG4 hG HE HN2 hxl
      have HC := Lib.hid (hE.count 64 (by decide) hlen)
      clear hE
      go_wp2_with fail
      refine HC.out.mono ?_
      rintro en w7 ⟨n3, s5, rfl, hn3, hg2, hE, _⟩
      have HG6 := Lib.hid hg2
      have HE := Lib.hid hE
      have HN3 := Lib.hid hn3
      clear HC hg2 hE hn3
      go_upto_block 4 with fail
      go_cut [10, 11, 12] from 81 to 114 (fun _ _ _ wx => ∃ lc vc st3, EAt w B E R A c bs id vo va vc xs la lc st3 wx ∧ Got (rdMany rdCl n3) s5 lc st3 ∧ lc.length ≤ 64)
      case first =>
        have hn3 := HN3.out
        go_wp2_with fail
        go_loopw [10] (fun i wr => ∃ k : Nat, k ≤ n3 ∧ i = .int .i64 (k : Int) ∧ ∃ lc vc st3, EAt w B E R A c bs id vo va vc xs la lc st3 wr ∧ Got (rdMany rdCl k) s5 lc st3 ∧ lc.length ≤ k) (fun i _ => n3 - (intOf i).toNat)
        case atStart => exact ⟨0, Nat.zero_le _, rfl, [], _, _, HE.out, Got.startN, Nat.le_refl _⟩
        case round =>
          obtain ⟨k, hk, rfl, lc, vc, st3, hE, hG, hxl⟩ := hrel
          obtain ⟨at_, bad, k1, _, hn0, hs0, _, _⟩ := hE.rs.open_
          obtain ⟨⟨q0, q1, q2⟩, y0, y1, y2⟩ := blk3 k1
          clear k1 hn0
          by_cases hlt : k < n3
          · cases bad with
            | true =>
              obtain rfl : st3 = none := by
                cases st3 with
                | none => rfl
                | some q => exact absurd (hs0 q rfl).1 (by decide)
              have H := Lib.hid (And.intro hE (hG.stop hk))
              clear hE hG hs0
              go_wp2_with fail
              go_meet
              exact ⟨lc, vc, none, H.out.1, H.out.2, by omega⟩
            | false =>
              have HK := Lib.hid (And.intro hG hxl)
              clear hs0
              have HC := Lib.hid (hE.count 1 (by decide) hlen)
              clear hE hG
              go_wp2_with fail
              refine HC.out.mono ?_
              rintro en wm ⟨mk, m1, rfl, hmk, hg1, hE1, _⟩
              have HC := Lib.hid (hE1.signed hlen)
              have HG1 := Lib.hid hg1
              have HMK := Lib.hid hmk
              clear hg1 hE1 hmk
              clear q0 q1 q2 y0 y1 y2
              go_wp2_with fail
              refine HC.out.mono ?_
              rintro en wa ⟨col, t2, rfl, hg1, hE1, _⟩
              have hbx := hE1.newbox #[.bool (decide ((mk : Int) = 1)), .int .i64 col, .string ⟨#[]⟩, .int .i64 0, .int .i64 0] 74
              have HG2 := Lib.hid hg1
              clear HC hg1 hE1
              go_upto_region 24 with fail
              generalize wa.alloc (.cells #[.bool (decide ((mk : Int) = 1)), .int .i64 col, .string ⟨#[]⟩, .int .i64 0, .int .i64 0] 74) = wb2 at hbx ⊢
              obtain ⟨T, hT⟩ : ∃ x, wa.heap.size = x := ⟨_, rfl⟩
              rw [hT] at hbx ⊢
              clear hT
              have HC := Lib.hid (hbx.e.text hlen)
              have HB := Lib.hid hbx
              clear hbx
              go_wp2_with fail
              refine HC.out.mono ?_
              rintro en wc2 ⟨key, t3, rfl, hg, hE1, ho1⟩
              have hbx := HB.out.read ho1 hE1
              have HG3 := Lib.hid hg
              obtain ⟨z0, z1⟩ := hbx.at_ 2 rfl
              have hbx := hbx.set 2 (.string ⟨key.toArray⟩)
              simp only [List.setIfInBounds_toArray, List.set_cons_zero, List.set_cons_succ] at hbx
              have HB2 := Lib.hid hbx
              clear HC hg hE1 ho1 hbx
              go_upto_region 25 with fail
              have hbx := HB2.out
              generalize wc2.setCell ⟨T, 2, none⟩ (.string ⟨key.toArray⟩) = wb3 at hbx ⊢
              clear HB HB2 z0 z1
              have HC := Lib.hid (hbx.e.signed hlen)
              have HB := Lib.hid hbx
              clear hbx
              go_wp2_with fail
              refine HC.out.mono ?_
              rintro en wc3 ⟨lo, t4, rfl, hg, hE1, ho1⟩
              have hbx := HB.out.read ho1 hE1
              have HG4 := Lib.hid hg
              obtain ⟨z0, z1⟩ := hbx.at_ 3 rfl
              have hbx := hbx.set 3 (.int .i64 lo)
              simp only [List.setIfInBounds_toArray, List.set_cons_zero, List.set_cons_succ] at hbx
              have HB2 := Lib.hid hbx
              clear HC hg hE1 ho1 hbx
              go_upto_region 26 with fail
              have hbx := HB2.out
              generalize wc3.setCell ⟨T, 3, none⟩ (.int .i64 lo) = wb4 at hbx ⊢
              clear HB HB2 z0 z1
              have HC := Lib.hid (hbx.e.signed hlen)
              have HB := Lib.hid hbx
              clear hbx
              go_wp2_with fail
              refine HC.out.mono ?_
              rintro en wc4 ⟨hi, t5, rfl, hg, hE1, ho1⟩
              have hbx := HB.out.read ho1 hE1
              have HG5 := Lib.hid hg
              obtain ⟨z0, z1⟩ := hbx.at_ 4 rfl
              have hbx := hbx.set 4 (.int .i64 hi)
              simp only [List.setIfInBounds_toArray, List.set_cons_zero, List.set_cons_succ] at hbx
              have HB2 := Lib.hid hbx
              clear HC hg hE1 ho1 hbx
              go_upto_region 27 with fail
              have hbx := HB2.out
              generalize wc4.setCell ⟨T, 4, none⟩ (.int .i64 hi) = wb5 at hbx ⊢
              clear HB HB2 z0 z1
              have hE7 := hbx.e.under (one_box wb5 (.cells #[.bool (decide ((mk : Int) = 1)), .int .i64 col, .string ⟨key.toArray⟩, .int .i64 lo, .int .i64 hi] 74))
              have hnews := World.news_of_block (heap_alloc_new wb5 (.cells #[.bool (decide ((mk : Int) = 1)), .int .i64 col, .string ⟨key.toArray⟩, .int .i64 lo, .int .i64 hi] 74))
              obtain ⟨⟨x0, x1, x2, x3⟩, f0, f1, f2, f3⟩ := blk4 hbx.e.ent
              obtain ⟨z0, z1, z2, z3, z4⟩ := blk5 hbx.box
              obtain ⟨A5, c5, rfl⟩ := ownsRow_slice hE7.cls
              have HX := Lib.hid (And.intro hE7 (And.intro hnews hbx))
              clear hE7 hnews hbx
              go_upto_region 21 with (at_builtin; go_loud (refine wpList_append_lies _ rfl _ _ 24 rfl w.heap.size 74 ic _ 5 48 Tryz.underlying24 HI.out.2.2 hc0 hc1 hc2 rfl (by decide) (.slice A5 lc.length c5) lc.length _ rfl HX.out.1.cls ⟨wb5.heap.size, 0, none⟩ 1 1 [.bool (decide ((mk : Int) = 1)), .int .i64 col, .string ⟨key.toArray⟩, .int .i64 lo, .int .i64 hi] rfl rfl HX.out.2.1 (by simp [Value.oneCell']) (by decide) (by unfold maxLen; omega) (by omega) HX.out.1.below.size _ rfl ?_); intro g cap wz hown hgrow hat hglt; have hEz := (Only.of_grownBy hgrow).heap HX.out.1.ent (own_blk_ne HX.out.1.cls HX.out.1.ent (by decide)); obtain ⟨⟨v0, v1, v2, v3⟩, g0, g1, g2, g3⟩ := blk4 hEz; have HZ := Lib.hid (And.intro hown hgrow); clear hown hgrow hat hglt hEz)
              clear z0 z1 z2 z3 z4 f0 f1 f2 f3 x0 x1 x2 x3
              have hE8 := HX.out.1.app_cl (x := ⟨(decide ((mk : Int) = 1)), col, key, lo, hi⟩) HZ.out.2 HZ.out.1
              have HE8 := Lib.hid hE8
              clear hE8
              go_wp2_with fail
              go_roundw
              case rel =>
                exact ⟨k + 1, by omega, by go_num, lc ++ [⟨(decide ((mk : Int) = 1)), col, key, lo, hi⟩], _, t5, HE8.out, HK.out.1.more (Got.cl HG1.out HG2.out HG3.out HG4.out HG5.out), by have := HK.out.2; simp; omega⟩
              case measure => simp [intOf]; omega
          · obtain rfl : k = n3 := by omega
            have H := Lib.hid (And.intro hE hG)
            clear hE hG hs0
            go_wp2_with fail
            go_meet
            exact ⟨lc, vc, st3, H.out.1, H.out.2, by omega⟩
      case rest =>
        obtain ⟨lc, vc, st3, hE, hG, hxl⟩ := hcut
        have HG7 := Lib.hid (Got.list HG6.out hG)
        have HZL := Lib.hid hxl
        clear HG6 hG HE HN3 hxl
        obtain ⟨A1, c1, rfl⟩ := ownsRow_slice hE.ops
        obtain ⟨A2, c2, rfl⟩ := ownsRow_slice hE.args
        obtain ⟨A3, c3, rfl⟩ := ownsRow_slice hE.cls
        have hent := Got.ent HG1.out HG3.out HG5.out HG7.out
        obtain ⟨at_, bad, k1, hat, hn0, hs0, _, _⟩ := hE.rs.open_
        obtain ⟨⟨q0, q1, q2⟩, y0, y1, y2⟩ := blk3 k1
        obtain ⟨⟨x0, x1, x2, x3⟩, f0, f1, f2, f3⟩ := blk4 hE.ent
        obtain ⟨⟨r0, r1, r2, r3⟩, e0, e1, e2, e3⟩ := blk4 hE.res
        have HF := Lib.hid (And.intro hE hent)
        clear k1 hE hent
        have hne1 : ¬ R = B := by have := HF.out.1.far; omega
        have hne2 : ¬ B = R := by have := HF.out.1.far; omega
        have hne3 : ¬ R = E := by have := HF.out.1.far; omega
        have hne4 : ¬ E = R := by have := HF.out.1.far; omega
        cases bad with
        | true =>
          have HS := Lib.hid (show rdEnt bs = none by
            rcases HF.out.2 with ⟨e, _⟩ | ⟨_, e⟩
            · exact absurd (hs0 [] e).1 (by decide)
            · exact e)
          clear hn0 hs0
          go_upto_region 28 with fail
          go_region
          go_wp2_with fail
          refine bodyPost_ret (results_cell_row2 rfl _ _ _ _ _ _ _ rfl (put4 HF.out.1.res _ _ _ _) Tryz.underlying39 rfl (by kernel_rfl)) rfl ⟨⟨id, xs, la, lc⟩, A1, c1, A2, c2, A3, c3, false, rfl, HF.out.1.done _ _ _ _, (fun e => by cases e), fun _ => HS.out, HXL.out, HYL.out, HZL.out⟩
        | false =>
          have hst : st3 = some (bs.drop at_) := by
            cases st3 with
            | none => exact absurd (hn0 rfl) (by decide)
            | some q => rw [(hs0 q rfl).2]
          clear hn0 hs0
          by_cases hal : at_ = bs.length
          · subst hal
            have HS := Lib.hid (show rdEnt bs = some ⟨id, xs, la, lc⟩ by
              rcases HF.out.2 with ⟨_, e⟩ | ⟨e, _⟩
              · exact e
              · exact absurd (by rw [hst]; simp) e)
            clear hst
            go_upto_region 28 with fail
            go_region
            go_wp2_with fail
            refine bodyPost_ret (results_cell_row2 rfl _ _ _ _ _ _ _ rfl (put4 HF.out.1.res _ _ _ _) Tryz.underlying39 rfl (by kernel_rfl)) rfl ⟨⟨id, xs, la, lc⟩, A1, c1, A2, c2, A3, c3, true, rfl, HF.out.1.done _ _ _ _, fun _ => HS.out, (fun e => by cases e), HXL.out, HYL.out, HZL.out⟩
          · have HS := Lib.hid (show rdEnt bs = none by
              rcases HF.out.2 with ⟨e, _⟩ | ⟨_, e⟩
              · rw [hst] at e
                injection e with e
                rw [List.drop_eq_nil_iff] at e
                exact absurd (Nat.le_antisymm hat e) hal
              · exact e)
            have hal' : ((at_ : Int) == (bs.length : Int)) = false := by simp; omega
            clear hst
            go_upto_region 28 with fail
            go_region
            go_wp2_with fail
            refine bodyPost_ret (results_cell_row2 rfl _ _ _ _ _ _ _ rfl (put4 HF.out.1.res _ _ _ _) Tryz.underlying39 rfl (by kernel_rfl)) rfl ⟨⟨id, xs, la, lc⟩, A1, c1, A2, c2, A3, c3, false, rfl, HF.out.1.done _ _ _ _, (fun e => by cases e), fun _ => HS.out, HXL.out, HYL.out, HZL.out⟩
end Go.Proofs.YtihjcfifakcpgaaGreatDoor
