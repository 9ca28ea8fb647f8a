import Derived.Test.YtagemonojdgbdaaGreatDoorC09
import Derived.Deep.DeepCutAuto
namespace Go.Proofs.YtagemonojdgbdaaGreatDoor
set_option maxRecDepth 100000
open Go.RowKit
def isLow (lo : Int) : List (Int × Int) → Bool
 | [] => false
 | o :: _ => decide (o.2 < lo)
theorem dropLow_not {lo : Int} {os : List (Int × Int)} (h : isLow lo os = false) : dropLow lo os = os := by
 cases os with
 | nil => rfl
 | cons o os => unfold isLow at h; unfold dropLow; rw [List.dropWhile_cons, if_neg (by simpa using h)]
theorem dropLow_low {lo : Int} {o : Int × Int} {os : List (Int × Int)} (h : isLow lo (o :: os) = true) : dropLow lo (o :: os) = dropLow lo os := by
 unfold isLow at h; unfold dropLow; rw [List.dropWhile_cons, if_pos h]
def lenV : Value → Nat
 | .slice _ n _ => n
 | _ => 0
theorem drewN_only (w : World) (n : Nat) : Only (fun _ => False) w (w.drewN n) := (Only.refl (fun _ => False) w).drewN n
theorem SpRd.tail {w : World} {F : Nat → Prop} {b o n c : Nat} {x : Int × Int} {r : List (Int × Int)} (h : SpRd w F (.slice (some ⟨b, o, none⟩) n c) (x :: r)) :
  SpRd w F (.slice (if c = 1 then some ⟨b, o, none⟩ else some ⟨b, o + 2, none⟩) r.length (c - 1)) r := by
 obtain ⟨A, n', c', hv, hl, hnc, hcm, hx⟩ := h
 injection hv with h1 h2 h3
 subst h1 h2 h3
 simp at hl
 refine ⟨_, _, _, rfl, by simp, by omega, by omega, fun hn => ?_⟩
 obtain ⟨b', o', hbo, hF, hc⟩ := hx (by omega)
 injection hbo with hbo
 injection hbo with h1 h2
 subst h1 h2
 rw [if_neg (by omega)]
 refine ⟨b, o + 2, rfl, hF, fun i y hi j u hj => ?_⟩
 have := hc (i + 1) y (by simpa using hi) j u hj
 rw [← this]
 congr 2
 omega
theorem keep_boxes {w3 w4 : World} {X Y : Obj} {row : Option Nat} {B : Nat} {o : Obj} (hbx : w3.heap[B]? = some o) (hg : ((w3.alloc X).alloc Y).grownBy w4 row) (hr : row ≠ some B) (hr2 : row ≠ some w3.heap.size) :
  w4.heap[B]? = some o ∧ w4.heap[w3.heap.size]? = some X := by
 have hB : B < w3.heap.size := (Array.getElem?_eq_some_iff.1 hbx).1
 constructor
 ·rw [hg.block B (by simp; omega) (fun e => hr e.symm), Below.heap_alloc _ _ _ (by simp; omega), Below.heap_alloc _ _ _ hB]
  exact hbx
 ·rw [hg.block w3.heap.size (by simp; omega) (fun e => hr2 e.symm), Below.heap_alloc _ _ _ (by simp)]
  exact heap_alloc_new _ _
def InR (w : World) (B : Nat) (x : Int × Int) (acc os : List (Int × Int)) (j : Nat) (v5 : Value) (w' : World) : Prop :=
 ∃ (s1 : Int) (acc' : List (Int × Int)), w'.heap[B]? = some (.cells #[.int .i64 s1, .int .i64 x.2] 178) ∧ I64 s1 ∧
  w'.ownsRow w.heap.size 178 2 v5 acc'.length (acc'.map spc).flatten ∧ (∀ g, v5.ownBlock = some g → g ≠ B) ∧ acc'.length ≤ acc.length + j ∧ Below w.heap.size w w' ∧
  acc' ++ cutGo (s1, x.2) (os.drop j) = acc ++ cutGo x os
def OutR (w : World) (F : Nat → Prop) (l others : List (Int × Int)) (k : Nat) (v1 v5 : Value) (w' : World) : Prop :=
 ∃ os acc, SpRd w F v1 os ∧ SpFit os ∧ os.length ≤ 1000 ∧ w'.ownsRow w.heap.size 178 2 v5 acc.length (acc.map spc).flatten ∧ acc.length ≤ k * 1001 ∧ Below w.heap.size w w' ∧ acc ++ withoutS (l.drop k) os = withoutS l others
theorem out_step {w w' : World} {F : Nat → Prop} {l others os os2 acc acc2 : List (Int × Int)} {k : Nat} {x : Int × Int} {v1 v5 : Value}
  (hd : l.drop k = x :: l.drop (k + 1)) (heq : acc ++ withoutS (l.drop k) os = withoutS l others) (hal : acc.length ≤ k * 1001) (h2 : dropLow x.1 os2 = dropLow x.1 os) (hlow : isLow x.1 os2 = false)
  (hr : SpRd w F v1 os2) (hf : SpFit os2) (hl : os2.length ≤ 1000) (hown : w'.ownsRow w.heap.size 178 2 v5 acc2.length (acc2.map spc).flatten) (hb : Below w.heap.size w w')
  (hacc : acc2 = acc ++ cutGo x os2) (hlen : acc2.length ≤ acc.length + 1001) : OutR w F l others (k + 1) v1 v5 w' := by
 refine ⟨os2, acc2, hr, hf, hl, hown, by omega, hb, ?_⟩
 rw [← heq, hd, withoutS, ← h2, dropLow_not hlow, hacc, List.append_assoc]
set_option maxHeartbeats 1000000 in
theorem without_ok (w : World) (F : Nat → Prop) (v v1 : Value) (l others : List (Int × Int)) (h : SpRd w F v l) (h1 : SpRd w F v1 others) (hl : l.length ≤ 1000) (ho : others.length ≤ 1000) (hfit : SpFit l) (hfo : SpFit others) :
  Calls Tryz.prog 71 #[v, v1] w (FreshS (withoutS l others) w) := by
 obtain ⟨i0, hi, hz0, hz1, hz2⟩ := info_parts Tryz.info81
 obtain ⟨A, c, rfl, hnc, hcm⟩ := h.slice
 have H := Lib.hid h
 have H1 := Lib.hid h1
 clear h h1
 go_enter Tryz.func71, Tryz.ntmps71
 go_wp2_with fail
 go_step3
 go_wp2_with fail
 go_step3
 go_wp2_with fail
 go_loopw [1, 5, 12] (fun v1 v5 i wr => ∃ k, k ≤ l.length ∧ i = .int .i64 (k : Int) ∧ OutR w F l others k v1 v5 wr) (fun _ _ i _ => l.length - (intOf i).toNat)
 case atStart => exact ⟨0, Nat.zero_le _, rfl, others, [], H1.out, hfo, ho, World.ownsRow_nil _ _ _ _, by simp, Below.refl _ _, by simp⟩
 case round =>
  obtain ⟨k, hk, rfl, os, acc, hos, hosf, hosl, hown, hal, hbl, heq⟩ := hrel
  by_cases hlt : k < l.length
  ·obtain ⟨x, hx⟩ : ∃ x, l[k]? = some x := ⟨_, List.getElem?_eq_getElem hlt⟩
   obtain ⟨b, o, rfl, hFb, c0, c1⟩ := H.out.at_ hx
   have hb : b < w.heap.size := World.block_lt_of_cell? w _ c0
   have c0' := (hbl.cell (p := ⟨b, o + k * 2, none⟩) hb).trans c0
   have c1' := (hbl.cell (p := ⟨b, o + k * 2 + 1, none⟩) hb).trans c1
   have hxf := hfit x (List.mem_of_getElem? hx)
   have hdr : l.drop k = x :: l.drop (k + 1) := List.drop_eq_getElem?_toList_append .. |>.trans (by rw [hx]; rfl)
   have HD := Lib.hid (And.intro hdr (And.intro heq (And.intro hown (And.intro hal hbl))))
   have hs := hbl.size
   clear hx c0 c1 hdr heq hown hal hbl
   obtain ⟨wo, rfl⟩ : ∃ wo : World, wo = wr := ⟨_, rfl⟩
   go_wp2_with fail
   obtain ⟨wa, hwa⟩ : ∃ wa, wo.alloc (.cells #[.int .i64 x.1, .int .i64 x.2] 178) = wa := ⟨_, rfl⟩
   obtain ⟨B, hB⟩ : ∃ B, wo.heap.size = B := ⟨_, rfl⟩
   have hba : Below B wo wa := by rw [← hwa, ← hB]; exact (Below.refl _ _).alloc (Nat.le_refl _) _
   have hsa : wa.heap.size = B + 1 := by rw [← hwa, ← hB]; simp
   have hbx : wa.heap[B]? = some (.cells #[.int .i64 x.1, .int .i64 x.2] 178) := by rw [← hwa, ← hB]; exact heap_alloc_new _ _
   have hwB : w.heap.size ≤ B := by omega
   rw [hwa, hB]
   have HW := Lib.hid (And.intro hba (And.intro hsa hbx))
   have HWO := Lib.hid (And.intro hwa hB)
   clear hwa hB hba hsa hbx c0' c1'
   go_loopw [1] (fun v1 w2 => ∃ os2, SpRd w F v1 os2 ∧ SpFit os2 ∧ os2.length ≤ 1000 ∧ dropLow x.1 os2 = dropLow x.1 os ∧ Below wa.heap.size wa w2) (fun v1 _ => lenV v1)
   case atStart => exact ⟨os, hos, hosf, hosl, rfl, Below.refl _ _⟩
   case round =>
    obtain ⟨os2, hr2, hf2, hl2, hd2, hb2⟩ := hrel
    obtain ⟨A1, c1, rfl, hc1, hc2⟩ := hr2.slice
    rename World => w2
    have HX := Lib.hid (And.intro hr2 (And.intro hf2 (And.intro hl2 (And.intro hd2 hb2))))
    clear hr2 hf2 hl2 hd2 hb2
    have hq : ∃ nq : Nat, w2.drewN nq = w2.drewN nq := ⟨0, rfl⟩
    clear hq
    obtain ⟨q0, q1, _, _⟩ := blk_cell2 (by rw [HX.out.2.2.2.2.block B (by rw [HW.out.2.1]; omega)]; exact HW.out.2.2 : w2.heap[B]? = some (.cells #[.int .i64 x.1, .int .i64 x.2] 178))
    go_upto_region 5 with fail
    go_cut [27] from 16 to 29 (fun s27 wx => s27 = .bool (isLow x.1 os2) ∧ Only (fun _ => False) w2 wx)
    case first =>
     cases os2 with
     | nil =>
      go_wp2_with fail
      go_quiet (fail)
      go_wp2_with fail
      go_meet
      exact ⟨rfl, drewN_only _ _⟩
     | cons o2 r2 =>
      obtain ⟨b1, o1, rfl, hF1, e0, e1⟩ := HX.out.1.at_ (k := 0) rfl
      simp only [Nat.zero_mul, Nat.add_zero] at e0 e1
      have hb1 := World.block_lt_of_cell? w _ e0
      have hbb : Below w.heap.size w w2 := HD.out.2.2.2.2.trans ((HW.out.1.mono hwB).trans (HX.out.2.2.2.2.mono (by rw [HW.out.2.1]; omega)))
      have e0' := (hbb.cell (p := ⟨b1, o1, none⟩) hb1).trans e0
      have e1' := (hbb.cell (p := ⟨b1, o1 + 1, none⟩) hb1).trans e1
      clear e0 e1 hbb
      have hz1 : (0 : Int) < (r2.length : Int) + 1 := by omega
      go_wp2_with fail
      go_quiet (fail)
      go_wp2_with fail
      go_meet
      exact ⟨rfl, drewN_only _ _⟩
    case rest =>
     obtain ⟨rfl, hon⟩ := hcut
     have hbc : Below wa.heap.size wa wc := HX.out.2.2.2.2.trans (hon.belowN HX.out.2.2.2.2.size (fun _ _ h => h))
     have HON := Lib.hid hbc
     clear hon hbc q0 q1
     cases hlow : isLow x.1 os2 with
     | true =>
      cases os2 with
      | nil => exact absurd hlow (by simp [isLow])
      | cons o2 r2 =>
       obtain ⟨b1, o1, rfl, hF1, _, _⟩ := HX.out.1.at_ (k := 0) rfl
       have HL := Lib.hid hlow
       clear hlow
       go_wp2_with fail
       refine ⟨⟨r2, HX.out.1.tail, fun y hy => HX.out.2.1 y (by simp [hy]), by have := HX.out.2.2.1; simp at this; omega, by rw [← HX.out.2.2.2.1, dropLow_low HL.out], HON.out⟩, by simp [lenV]⟩
     | false =>
      have HL := Lib.hid hlow
      clear hlow
      go_wp2_with fail
      go_loopw [5, 32] (fun v5 i w3 => ∃ j, j ≤ os2.length ∧ i = .int .i64 (j : Int) ∧ InR w B x acc os2 j v5 w3) (fun _ i _ => os2.length - (intOf i).toNat)
      case atStart =>
       have hB1 := HWO.out.2
       refine ⟨0, Nat.zero_le _, rfl, x.1, acc, ?_, hxf.1, ?_, ?_, by omega, ?_, rfl⟩
       ·rw [HON.out.block B (by rw [HW.out.2.1]; omega)]; exact HW.out.2.2
       ·have h1 := own_below HD.out.2.2.1 (w' := wa) (by rw [hB1]; exact HW.out.1)
        exact own_below h1 HON.out
       ·intro g hg h
        have := (HD.out.2.2.1.lt g hg).2
        omega
       ·exact HD.out.2.2.2.2.trans ((HW.out.1.mono hwB).trans (HON.out.mono (by rw [HW.out.2.1]; omega)))
      case round =>
       obtain ⟨j, hj, rfl, s1, acc', hbx, hs1, hown, hne, hlen, hbl, heq2⟩ := hrel
       rename World => w3
       have hs := hbl.size
       have hBl : B < w3.heap.size := (Array.getElem?_eq_some_iff.1 hbx).1
       obtain ⟨q0, q1, f0, f1⟩ := blk_cell2 hbx
       obtain ⟨A5, c5, rfl⟩ := ownsRow_slice hown
       have HR := Lib.hid (And.intro hbx (And.intro hown (And.intro hne (And.intro hlen (And.intro hbl heq2)))))
       have hl5 : acc'.length ≤ 10000000 := by have := HD.out.2.2.2.1; have := HX.out.2.2.1; omega
       clear hbx hown hne hlen hbl heq2
       have hl2 := HX.out.2.2.1
       by_cases hjl : j < os2.length
       ·obtain ⟨o2, ho2⟩ : ∃ o2, os2[j]? = some o2 := ⟨_, List.getElem?_eq_getElem hjl⟩
        obtain ⟨b1, o1, rfl, hF1, e0, e1⟩ := HX.out.1.at_ ho2
        have hb1 := World.block_lt_of_cell? w _ e0
        have e0' := (HR.out.2.2.2.2.1.cell (p := ⟨b1, o1 + j * 2, none⟩) hb1).trans e0
        have e1' := (HR.out.2.2.2.2.1.cell (p := ⟨b1, o1 + j * 2 + 1, none⟩) hb1).trans e1
        have hof := HX.out.2.1 o2 (List.mem_of_getElem? ho2)
        have hdr2 : os2.drop j = o2 :: os2.drop (j + 1) := List.drop_eq_getElem?_toList_append .. |>.trans (by rw [ho2]; rfl)
        have HO2 := Lib.hid hdr2
        clear e0 e1 ho2 hdr2
        by_cases g1 : x.2 < o2.1
        ·have hlast : acc' ++ [(s1, x.2)] = acc ++ cutGo x os2 := by rw [← HR.out.2.2.2.2.2, HO2.out, cutGo, if_pos g1]
         have hown' := (HR.out.2.1.alloc (.cells #[.int .i64 o2.1, .int .i64 o2.2] 178)).alloc (.cells #[.int .i64 s1, .int .i64 (x.2)] 178)
         have hnews := World.news_of_block (heap_alloc_new (w3.alloc (.cells #[.int .i64 o2.1, .int .i64 o2.2] 178)) (.cells #[.int .i64 s1, .int .i64 (x.2)] 178))
         rw [show (w3.alloc (.cells #[.int .i64 o2.1, .int .i64 o2.2] 178)).heap.size = w3.heap.size + 1 by simp] at hnews
         have HOWN := Lib.hid (And.intro hown' (And.intro hnews hlast))
         have HHI := Lib.hid hi
         clear hown' hnews hlast
         go_wp2_with (at_builtin; go_loud (refine wpList_append_lies _ rfl _ _ 172 rfl w.heap.size 178 i0 _ 2 16 Tryz.underlying172 HHI.out hz0 hz1 hz2 rfl (by decide) (.slice A5 acc'.length c5) acc'.length _ rfl HOWN.out.1 ⟨w3.heap.size + 1, 0, none⟩ 1 1 [.int .i64 s1, .int .i64 (x.2)] rfl rfl HOWN.out.2.1 (by simp [Value.oneCell']) (by decide) (by unfold maxLen; omega) (by omega) (by simp; omega) _ rfl ?_); intro g2_ cap w4 hown1 hgrow1 hat1 hlt1)
         go_roundw
         case rel =>
          refine ⟨k + 1, by omega, by go_num, out_step (acc2 := acc' ++ [(s1, x.2)]) HD.out.1 HD.out.2.1 HD.out.2.2.2.1 HX.out.2.2.2.1 HL.out HX.out.1 HX.out.2.1 HX.out.2.2.1 ?_ ?_ HOWN.out.2.2 ?_⟩
          ·simpa [spc] using hown1
          ·exact ((HR.out.2.2.2.2.1.alloc hs _).alloc (by simp; omega) _).grown hgrow1 (by simp; omega) (fun j hj => (HR.out.2.1.lt j hj).1)
          ·have := HR.out.2.2.2.1; have := HX.out.2.2.1; simp; omega
         case measure => simp [intOf]; omega
        ·have hs11 := hs1.1
         have hs12 := hs1.2
         have ho11 := hof.1.1
         have ho12 := hof.1.2
         have ho21 := hof.2.1
         have ho22 := hof.2.2
         have hx21 := hxf.2.1
         have hx22 := hxf.2.2
         by_cases g2 : s1 < o2.1
         ·have hown' := (HR.out.2.1.alloc (.cells #[.int .i64 o2.1, .int .i64 o2.2] 178)).alloc (.cells #[.int .i64 s1, .int .i64 (o2.1 - 1)] 178)
          have hnews := World.news_of_block (heap_alloc_new (w3.alloc (.cells #[.int .i64 o2.1, .int .i64 o2.2] 178)) (.cells #[.int .i64 s1, .int .i64 (o2.1 - 1)] 178))
          rw [show (w3.alloc (.cells #[.int .i64 o2.1, .int .i64 o2.2] 178)).heap.size = w3.heap.size + 1 by simp] at hnews
          have hneB : (Value.slice A5 acc'.length c5).ownBlock ≠ some B := fun h => HR.out.2.2.1 B h rfl
          have hneH : (Value.slice A5 acc'.length c5).ownBlock ≠ some w3.heap.size := fun h => by have := (HR.out.2.1.lt _ h).2; omega
          have HOWN := Lib.hid (And.intro hown' (And.intro hnews (And.intro hneB hneH)))
          have HHI := Lib.hid hi
          clear hown' hnews hneB hneH
          by_cases g3 : x.2 ≤ o2.2
          ·have hlast : acc' ++ [(s1, o2.1 - 1)] = acc ++ cutGo x os2 := by rw [← HR.out.2.2.2.2.2, HO2.out, cutGo, if_neg g1, if_pos g2, if_pos g3, List.append_nil]
           have HLAST := Lib.hid hlast
           clear hlast
           go_wp2_with (at_builtin; go_loud (refine wpList_append_lies _ rfl _ _ 172 rfl w.heap.size 178 i0 _ 2 16 Tryz.underlying172 HHI.out hz0 hz1 hz2 rfl (by decide) (.slice A5 acc'.length c5) acc'.length _ rfl HOWN.out.1 ⟨w3.heap.size + 1, 0, none⟩ 1 1 [.int .i64 s1, .int .i64 (o2.1 - 1)] rfl rfl HOWN.out.2.1 (by simp [Value.oneCell']) (by decide) (by unfold maxLen; omega) (by omega) (by simp; omega) _ rfl ?_); intro g2_ cap w4 hown1 hgrow1 hat1 hlt1; have HB4 := Lib.hid (keep_boxes HR.out.1 hgrow1 HOWN.out.2.2.1 HOWN.out.2.2.2); obtain ⟨p0, p1, pf0, pf1⟩ := blk_cell2 HB4.out.1; obtain ⟨r0, r1, _, _⟩ := blk_cell2 HB4.out.2)
           go_roundw
           case rel =>
            refine ⟨k + 1, by omega, by go_num, out_step (acc2 := acc' ++ [(s1, o2.1 - 1)]) HD.out.1 HD.out.2.1 HD.out.2.2.2.1 HX.out.2.2.2.1 HL.out HX.out.1 HX.out.2.1 HX.out.2.2.1 ?_ ?_ HLAST.out ?_⟩
            ·simpa [spc] using hown1
            ·exact ((HR.out.2.2.2.2.1.alloc hs _).alloc (by simp; omega) _).grown hgrow1 (by simp; omega) (fun j hj => (HR.out.2.1.lt j hj).1)
            ·have := HR.out.2.2.2.1; have := HX.out.2.2.1; simp; omega
           case measure => simp [intOf]; omega
          ·have hlast : (acc' ++ [(s1, o2.1 - 1)]) ++ cutGo (o2.2 + 1, x.2) (os2.drop (j + 1)) = acc ++ cutGo x os2 := by
            rw [← HR.out.2.2.2.2.2, HO2.out, cutGo.eq_2 (s1, x.2), if_neg g1, if_pos g2, if_neg g3, List.append_assoc]
           have HLAST := Lib.hid hlast
           clear hlast
           go_wp2_with (at_builtin; go_loud (refine wpList_append_lies _ rfl _ _ 172 rfl w.heap.size 178 i0 _ 2 16 Tryz.underlying172 HHI.out hz0 hz1 hz2 rfl (by decide) (.slice A5 acc'.length c5) acc'.length _ rfl HOWN.out.1 ⟨w3.heap.size + 1, 0, none⟩ 1 1 [.int .i64 s1, .int .i64 (o2.1 - 1)] rfl rfl HOWN.out.2.1 (by simp [Value.oneCell']) (by decide) (by unfold maxLen; omega) (by omega) (by simp; omega) _ rfl ?_); intro g2_ cap w4 hown1 hgrow1 hat1 hlt1; have HB4 := Lib.hid (keep_boxes HR.out.1 hgrow1 HOWN.out.2.2.1 HOWN.out.2.2.2); obtain ⟨p0, p1, pf0, pf1⟩ := blk_cell2 HB4.out.1; obtain ⟨r0, r1, _, _⟩ := blk_cell2 HB4.out.2)
           go_roundw
           case rel =>
            have hbl4 := ((HR.out.2.2.2.2.1.alloc hs (.cells #[.int .i64 o2.1, .int .i64 o2.2] 178)).alloc (by simp; omega) (.cells #[.int .i64 s1, .int .i64 (o2.1 - 1)] 178)).grown hgrow1 (by simp; omega) (fun j hj => (HR.out.2.1.lt j hj).1)
            have hgB : g2_ ≠ B := by
             rcases hat1 with h | h
             ·intro e; subst e; exact HOWN.out.2.2.1 h
             ·simp at h; omega
            refine ⟨j + 1, by omega, by go_num, o2.2 + 1, acc' ++ [(s1, o2.1 - 1)], ?_, ?_, ?_, ?_, ?_, ?_, HLAST.out⟩
            ·have := heap_setCell_same _ B 0 _ _ (.int .i64 (o2.2 + 1)) HB4.out.1
             simpa using this
            ·unfold I64; omega
            ·have h5 := own_only hown1 (S := fun k => k = B) (Only.set1 w4 B 0 (.int .i64 (o2.2 + 1))) (fun g hg e => hgB (by simp [Value.ownBlock] at hg; omega))
             simpa [spc] using h5
            ·intro g hg; simp [Value.ownBlock] at hg; omega
            ·have := HR.out.2.2.2.1; simp; omega
            ·exact hbl4.setCell (p := ⟨B, 0, none⟩) hwB _
           case measure => simp [intOf]; omega
         ·by_cases g3 : x.2 ≤ o2.2
          ·have hlast : acc' = acc ++ cutGo x os2 := by rw [← HR.out.2.2.2.2.2, HO2.out, cutGo, if_neg g1, if_neg g2, if_pos g3]; simp
           have HLAST := Lib.hid hlast
           clear hlast
           go_wp2_with fail
           go_roundw
           case rel =>
            refine ⟨k + 1, by omega, by go_num, out_step (acc2 := acc') HD.out.1 HD.out.2.1 HD.out.2.2.2.1 HX.out.2.2.2.1 HL.out HX.out.1 HX.out.2.1 HX.out.2.2.1 (HR.out.2.1.alloc _) (HR.out.2.2.2.2.1.alloc hs _) HLAST.out ?_⟩
            have := HR.out.2.2.2.1; have := HX.out.2.2.1; omega
           case measure => simp [intOf]; omega
          ·have hlast : acc' ++ cutGo (o2.2 + 1, x.2) (os2.drop (j + 1)) = acc ++ cutGo x os2 := by
            rw [← HR.out.2.2.2.2.2, HO2.out, cutGo.eq_2 (s1, x.2), if_neg g1, if_neg g2, if_neg g3, List.nil_append]
           have HLAST := Lib.hid hlast
           clear hlast
           go_wp2_with fail
           go_roundw
           case rel =>
            refine ⟨j + 1, by omega, by go_num, o2.2 + 1, acc', ?_, ?_, ?_, HR.out.2.2.1, ?_, ?_, HLAST.out⟩
            ·have := heap_setCell_same _ B 0 _ _ (.int .i64 (o2.2 + 1)) HR.out.1
             rw [Below.heap_alloc _ _ _ (by simpa using hBl)]
             simpa using this
            ·unfold I64; omega
            ·exact (own_only HR.out.2.1 (S := fun k => k = B) (Only.set1 w3 B 0 (.int .i64 (o2.2 + 1))) (fun g hg e => HR.out.2.2.1 g hg e)).alloc _
            ·have := HR.out.2.2.2.1; omega
            ·exact (HR.out.2.2.2.2.1.setCell (p := ⟨B, 0, none⟩) hwB _).alloc (by simpa using hs) _
           case measure => simp [intOf]; omega
       ·have hlast : acc' ++ [(s1, x.2)] = acc ++ cutGo x os2 := by rw [← HR.out.2.2.2.2.2, List.drop_eq_nil_of_le (by omega)]; rfl
        have hown' := HR.out.2.1.alloc (.cells #[.int .i64 s1, .int .i64 x.2] 178)
        have hnews := World.news_of_block (heap_alloc_new w3 (.cells #[.int .i64 s1, .int .i64 x.2] 178))
        have HOWN := Lib.hid (And.intro hown' (And.intro hnews hlast))
        have HHI := Lib.hid hi
        clear hown' hnews hlast
        go_wp2_with (at_builtin; go_loud (refine wpList_append_lies _ rfl _ _ 172 rfl w.heap.size 178 i0 _ 2 16 Tryz.underlying172 HHI.out hz0 hz1 hz2 rfl (by decide) (.slice A5 acc'.length c5) acc'.length _ rfl HOWN.out.1 ⟨w3.heap.size, 0, none⟩ 1 1 [.int .i64 s1, .int .i64 x.2] rfl rfl HOWN.out.2.1 (by simp [Value.oneCell']) (by decide) (by unfold maxLen; omega) (by omega) (by simp; omega) _ rfl ?_); intro g2 cap w4 hown1 hgrow1 hat1 hlt1)
        go_roundw
        case rel =>
         refine ⟨k + 1, by omega, by go_num, out_step (acc2 := acc' ++ [(s1, x.2)]) HD.out.1 HD.out.2.1 HD.out.2.2.2.1 HX.out.2.2.2.1 HL.out HX.out.1 HX.out.2.1 HX.out.2.2.1 ?_ ?_ HOWN.out.2.2 ?_⟩
         ·simpa [spc] using hown1
         ·exact (HR.out.2.2.2.2.1.alloc hs _).grown hgrow1 (by simp; omega) (fun j hj => (HR.out.2.1.lt j hj).1)
         ·have := HR.out.2.2.2.1; have := HX.out.2.2.1; simp; omega
        case measure => simp [intOf]; omega
  ·have hkl : k = l.length := by omega
   subst hkl
   go_wp2_with fail
   try rw [Exit.noGoto_ret]
   go_ret
   rw [List.drop_length, withoutS, List.append_nil] at heq
   obtain ⟨A', c', rfl⟩ := ownsRow_slice hown
   exact heq ▸ ⟨A', c', rfl, hown, hbl⟩
end Go.Proofs.YtagemonojdgbdaaGreatDoor
