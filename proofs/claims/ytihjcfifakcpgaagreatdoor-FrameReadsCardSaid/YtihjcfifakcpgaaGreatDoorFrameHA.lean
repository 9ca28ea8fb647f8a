/- The chapter's example of law13. -/
import Derived.Test.YtihjcfifakcpgaaGreatDoorFrQ
import Derived.Test.YtihjcfifakcpgaaGreatDoorFrameE
import Derived.Test.YtihjcfifakcpgaaGreatDoorRfK
namespace Go.Proofs.YtihjcfifakcpgaaGreatDoor
set_option maxRecDepth 100000
open Go.RowKit

theorem inside_len {e : FE} (h : e.Good) : (inside e).length ≤ 10000 := by
  have h1 := encU_len [e.id, (e.ops.length : Int)]
  have h2 := flat_le (f := encOp) (m := 50) (l := e.ops) (fun x _ => encOp_len x)
  have h3 := encU_len [(e.args.length : Int)]
  have h4 := encI_len e.args
  have h5 := encU_len [(e.cls.length : Int)]
  have h6 := flat_le (f := encCl) (m := 66) (l := e.cls) (fun x hx => by have := encCl_len x; have := (h.clo x hx).key_len; omega)
  have a1 := h.opl
  have a2 := h.arl
  have a3 := h.cll
  unfold inside
  simp only [List.length_append, List.length_cons, List.length_nil] at *
  omega
theorem EntRd.nil (w : World) (G : Nat → Prop) (n : Int) (h : I64f n) : EntRd w G ⟨n, [], [], []⟩ (.slice none 0 0) (.slice none 0 0) (.slice none 0 0) :=
  ⟨RdK.nil _ _ _, Rd.nil _ _, RdK.nil _ _ _, h, by simp, by simp, by simp⟩
set_option maxRecDepth 100000 in
set_option maxHeartbeats 1000000 in
theorem awake13_ok (w : World) (hs : ShTab w) (ht : NibTab w) : Calls Tryz.prog 11 #[] w fun e w' => e = .returned (.bool true) ∧ Below w.heap.size w w' := by
  have HE := Lib.hid (encode_ok w (fun _ => True) e5 _ _ _ (EntRd.nil w _ 5 (by simp [I64f])) hs ht (by decide))
  have HS := Lib.hid (And.intro hs ht)
  clear hs ht
  go_enter Tryz.func11, Tryz.ntmps11
  go_wp2_with fail
  refine HE.out.mono ?_
  rintro en w1 ⟨hb1, ⟨hz, _⟩ | ⟨_, A, c, rfl, hO⟩⟩
  · exact absurd (Good.of_form good5) hz
  have hln : (sealB (inside e5)).length = 8 := by rw [seal_len, inside5]; rfl
  rw [hln] at hO ⊢
  have hR := Rd.of_own hO (F := fun _ => True) (fun _ _ => trivial)
  have HD := Lib.hid (decode_ok w1 _ _ (sealB (inside e5)) (HS.out.2.below hb1) (HS.out.1.below hb1) hR (by rw [hln]; decide))
  have H1 := Lib.hid (And.intro hb1 hR)
  clear hb1 hO hR HE
  go_wp2_with fail
  refine HD.out.mono ?_
  rintro en w2 hd
  obtain ⟨hb2, vo, va, vc, rfl, hent⟩ := DecP.good good5 fits5e hd
  obtain ⟨A1, c1, A2, c2, A3, c3, rfl, rfl, rfl, _, _, _⟩ := hent.open_
  have hb02 := H1.out.1.trans (hb2.mono H1.out.1.size)
  have H2 := Lib.hid (And.intro hb02 (H1.out.2.below hb2))
  clear hd hent hb2 hb02 HD
  rw [show entV e5 (.slice A1 e5.ops.length c1) (.slice A2 e5.args.length c2) (.slice A3 e5.cls.length c3) = .agg #[.int .i64 5, .slice A1 0 c1, .slice A2 0 c2, .slice A3 0 c3] from rfl]
  have hb2' : Below w2.heap.size w2 ((w2.alloc (.cells #[.int .i64 5, .slice A1 0 c1, .slice A2 0 c2, .slice A3 0 c3] 26)).alloc (.cells #[.int .u8 5, .int .u8 0, .int .u8 0, .int .u8 0] 5)) := ((Below.refl _ _).alloc (Nat.le_refl _) _).alloc (by simp) _
  have kE : ((w2.alloc (.cells #[.int .i64 5, .slice A1 0 c1, .slice A2 0 c2, .slice A3 0 c3] 26)).alloc (.cells #[.int .u8 5, .int .u8 0, .int .u8 0, .int .u8 0] 5)).heap[w2.heap.size]? = some (.cells #[.int .i64 5, .slice A1 0 c1, .slice A2 0 c2, .slice A3 0 c3] 26 (0, 0)) := (Only.of_below (one_box _ _) (fun _ => False)).heap (heap_alloc_new _ _) (fun h => h)
  have kS : ((w2.alloc (.cells #[.int .i64 5, .slice A1 0 c1, .slice A2 0 c2, .slice A3 0 c3] 26)).alloc (.cells #[.int .u8 5, .int .u8 0, .int .u8 0, .int .u8 0] 5)).heap[w2.heap.size + 1]? = some (.cells #[.int .u8 5, .int .u8 0, .int .u8 0, .int .u8 0] 5 (0, 0)) := by
    have := heap_alloc_new (w2.alloc (.cells #[.int .i64 5, .slice A1 0 c1, .slice A2 0 c2, .slice A3 0 c3] 26)) (.cells #[.int .u8 5, .int .u8 0, .int .u8 0, .int .u8 0] 5)
    simpa using this
  have HB := Lib.hid hb2'
  clear hb2'
  go_wp2_with fail
  generalize (w2.alloc (.cells #[.int .i64 5, .slice A1 0 c1, .slice A2 0 c2, .slice A3 0 c3] 26)).alloc (.cells #[.int .u8 5, .int .u8 0, .int .u8 0, .int .u8 0] 5) = w3 at HB kE kS ⊢
  generalize w2.heap.size + 1 = Q2 at kS ⊢
  have hb03 := H2.out.1.trans (HB.out.mono H2.out.1.size)
  have hrS := bytes_block (xs := [5, 0, 0, 0]) kS rfl (by decide)
  have H3 := Lib.hid (And.intro hb03 (And.intro (H2.out.2.below HB.out) hrS))
  obtain ⟨Q1, hQ1⟩ : ∃ y, w2.heap.size = y := ⟨_, rfl⟩
  rw [hQ1] at kE ⊢
  clear hb03 kS hrS hQ1
  refine (seal_ok w3 _ _ 4 4 [5, 0, 0, 0] (HS.out.2.below H3.out.1) H3.out.2.2 (by decide)).mono ?_
  rintro en w4 ⟨A4, c4, rfl, hO4, hb4⟩
  have kE4 := (Only.of_below hb4 (fun _ => False)).heap kE (fun h => h)
  have hb04 := H3.out.1.trans (hb4.mono H3.out.1.size)
  have H4 := Lib.hid (And.intro hb04 (And.intro (H3.out.2.1.below hb4) (Rd.of_own hO4 (F := fun _ => True) (fun _ _ => trivial))))
  clear hb4 hO4 kE hb04
  rw [show (sealB [5, 0, 0, 0]).length = 8 from by rw [seal_len]; rfl] at H4 ⊢
  go_wp2_with fail
  refine (lawBytes_ok w4 _ _ _ _ _ _ H4.out.2.1 H4.out.2.2).mono ?_
  rintro en w5 ⟨r, hr, rfl, hb5⟩
  obtain rfl : r = true := hr.2 (by rw [inside5])
  have kE5 := (Only.of_below hb5 (fun _ => False)).heap kE4 (fun h => h)
  have H5 := Lib.hid (H4.out.1.trans (hb5.mono H4.out.1.size))
  clear hb5 kE4 hr
  obtain ⟨⟨x0, x1, x2, x3⟩, _, _, _, _⟩ := blk4 kE5
  go_wp2_with fail
  go_ret
  exact ⟨rfl, H5.out⟩
end Go.Proofs.YtihjcfifakcpgaaGreatDoor
