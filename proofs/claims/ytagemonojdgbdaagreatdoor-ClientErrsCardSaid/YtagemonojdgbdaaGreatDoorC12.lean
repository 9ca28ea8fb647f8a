import Derived.Test.YtagemonojdgbdaaGreatDoorC10
import Derived.Test.YtagemonojdgbdaaGreatDoorC11
import Derived.Sort.OwnSorted
import Derived.Sort.KeysCollected
import Derived.Deep.LoopGhost
namespace Go.Proofs.YtagemonojdgbdaaGreatDoor
set_option maxRecDepth 100000
open Go.RowKit
section
open Go.RowKit Go.Maps Go.WideShapes Go.Sort
def RowsMap (D : DataW Unit) (f : List UInt8 → Int) : Prop := ∀ k, D.atKey (rowKey k) (.lit (.int .i64 0)) = .lit (.int .i64 (f k)) ∧ (Maps.has D (rowKey k) = true ↔ f k ≠ 0)
def Met_ (D : DataW Unit) (left : Lit → Bool) (ss : List (List UInt8)) : Prop := ss.Nodup ∧ ∀ x, x ∈ ss ↔ (Maps.has D (rowKey x) = true ∧ left (rowKey x) = false)
theorem Met_.start (D : DataW Unit) : Met_ D (Maps.has D) [] := ⟨List.nodup_nil, fun x => by cases Maps.has D (rowKey x) <;> simp⟩
theorem sameKey_row (x y : List UInt8) : (rowKey x).sameKey (rowKey y) = decide (x = y) := by
 by_cases h : x = y
 ·subst h
  simp [rowKey, Lit.sameKey]
 ·have : rowKey x ≠ rowKey y := fun e => h (rowKey_inj e)
  unfold rowKey at this ⊢
  simp [Lit.sameKey, h] at this ⊢
  exact this
theorem Met_.step {D : DataW Unit} {left : Lit → Bool} {ss : List (List UInt8)} (h : Met_ D left ss) {x : List UInt8} {y : DataW Unit} (hlk : left (rowKey x) = true) (hat : ∀ zd, D.atKey (rowKey x) zd = y) :
  Met_ D (fun z => left z && !z.sameKey (rowKey x)) (ss ++ [x]) := by
 have hhas : Maps.has D (rowKey x) = true := has_true_of_atKey hat
 have hnew : x ∉ ss := fun hx => by have := ((h.2 x).1 hx).2; rw [hlk] at this; cases this
 refine ⟨List.nodup_append.2 ⟨h.1, by simp, fun a ha b hb => by simp at hb; subst hb; exact fun e => hnew (e ▸ ha)⟩, fun y => ?_⟩
 simp only [sameKey_row]
 by_cases hy : y = x
 ·subst hy; simp [hhas]
 ·simp [h.2 y, hy]
theorem Tryz.info9 : (Tryz.prog.info? 9).map (fun i => (i.zero, i.size, i.bytes)) = some (some (.string ⟨#[]⟩), 1, 16) := by kernel_rfl
def rowCl (f : List UInt8 → Int) (k : List UInt8) : Cl := ⟨f k == 2, -1, k, 0, 0⟩
def RowsP (f : List UInt8 → Int) (w : World) (e : Ending) (w' : World) : Prop :=
 ∃ ks : List (List UInt8), ks.length ≤ 1000 ∧ ks.Nodup ∧ (∀ k, k ∈ ks ↔ f k ≠ 0) ∧ FreshC ((ks.mergeSort fun x y => decide (x ≤ y)).map (rowCl f)) w e w'
def RangeR (w : World) (b n r : Nat) (D : DataW Unit) (v3 : Value) (w' : World) : Prop :=
 ∃ left cnt ss, w'.ranges Tryz.prog 176 (plainElem Tryz.prog 3) b r n D left cnt ∧ Met_ D left ss ∧ ss.length + cnt ≤ Maps.size D ∧ (∀ x ∈ ss, x.length ≤ maxLen) ∧
  w'.ownsRow w.heap.size 9 1 v3 ss.length (ss.map encStr) ∧ v3 ≠ .slice none 0 0 ∧ Below w.heap.size w w'
def ClaimR (w : World) (b n g m cap : Nat) (D : DataW Unit) (f : List UInt8 → Int) (ts : List (List UInt8)) (k : Nat) (v5 : Value) (w' : World) : Prop :=
 w'.ownsRow w.heap.size 48 5 v5 k (((ts.take k).map (rowCl f)).map Cl.cells).flatten ∧ w'.ownsRow w.heap.size 9 1 (.slice (some ⟨g, 0, none⟩) m cap) m (ts.map encStr) ∧
  w'.ownsMap Tryz.prog 176 (plainElem Tryz.prog 3) b n D ∧ RowKit.Below w.heap.size w w'
theorem Tryz.zero3 (w : World) : (zeroValue 3).run Tryz.prog w = .ok (.int .i64 0) w := by kernel_rfl
set_option maxHeartbeats 1000000 in
theorem ofRows_ok (w : World) (b n : Nat) (D : DataW Unit) (f : List UInt8 → Int) (hown : w.ownsMap Tryz.prog 176 (plainElem Tryz.prog 3) b n D) (hf : RowsMap D f) (hsz : Maps.size D ≤ 1000) :
  Calls Tryz.prog 68 #[.map (some b)] w (RowsP f w) := by
 obtain ⟨i0, hi, hz0, hz1, hz2⟩ := info_parts Tryz.info9
 go_enter Tryz.func68, Tryz.ntmps68
 go_wp2_with (first | (at_len; refine wpList_len_own _ rfl _ 171 rfl 176 3 Tryz.underlying171 _ b n D rfl hown ?_) | (at_make; refine wpList_make_own _ rfl _ _ 223 rfl w.heap.size 9 i0 (.string ⟨#[]⟩) 1 Tryz.underlying223 hi hz0 hz1 _ _ _ (Maps.size D) rfl rfl rfl (by rw [hz2]; omega) (by unfold maxLen; omega) (Nat.le_refl _) ?_; intro w1 hrow1 hg1) | (at_range; refine wpList_range_own _ rfl _ 171 rfl 176 3 lawK Tryz.underlying171 _ b n D rfl (hown.kept hg1 (by simp)) ?_; intro w0 hrg0 hg0 hs0))
 go_frame
 have hblo := hown.lt
 go_loopw [3] (fun v wr => RangeR w b n w1.heap.size D v wr) (fun _ wr => wr.rangeLeft b w1.heap.size)
 case atStart =>
  exact ⟨_, _, [], hrg0, Met_.start D, by simp, by simp, hrow1.kept hg0 (Or.inr (by simp [Value.ownBlock])), by simp,
   ((Below.refl _ _).grown hg1 (Nat.le_refl _) (fun j hj => by cases hj)).grown hg0 hg1.size (fun j hj => by cases hj)⟩
 case round =>
  obtain ⟨left, cnt, ss, hrg, hC, hcs, hlen, hrow, hnn, hnx⟩ := hrel
  go_wp2_with (at_next; refine wpList_next_ranges _ rfl _ rfl 176 lawK (plainElem Tryz.prog 3) rowV (Value.int .i64) (fun key kl hk => by obtain ⟨x, hx, _⟩ := keyOf_row_inv hk; exact ⟨x, hx⟩) (fun v y hv => by obtain ⟨c, rfl, _⟩ := plainElem_int_inv Tryz.underlying3 hv; exact ⟨c, rfl⟩) b w1.heap.size n _ _ _ rfl hrg ?_ ?_)
  ·intro hc0 hl0
   rcases hrow.2 with ⟨hnil, _⟩ | ⟨g, cap, cur, rfl, hbase, hb, h1, h2, h3, h4⟩
   ·exact absurd hnil hnn
   have hH : Holds encStr wr g 0 ss.toArray := holds_of_block hb (by simpa using h4)
   have hgl : g < wr.heap.size := (Array.getElem?_eq_some_iff.1 hb).1
   have hc := Any.slices_Sort_string Tryz.lays190 g 0 cap ss wr hH hgl (by omega)
   change Calls Tryz.prog 115 _ _ _ at hc
   have hks : ∀ k, k ∈ ss ↔ f k ≠ 0 := fun k => by rw [hC.2 k, hl0]; simpa using (hf k).2
   obtain ⟨i1, hi1, hy0, hy1, hy2⟩ := info_parts Tryz.info28
   have HH := Lib.hid (And.intro hb (And.intro h1 (And.intro h2 (And.intro h3 (And.intro hbase (And.intro hnx (And.intro hrg.owns (And.intro hC.1 (And.intro hks hlen)))))))))
   clear hb h1 h2 h3 h4 hH hC hl0 hrow hrg hnx hks hrg0 hg0 hs0 hrow1 hg1 hlen hnn
   go_wp2_with fail
   refine hc.mono ?_
   rintro e w4 ⟨rfl, nn, os, hw4⟩
   obtain ⟨ts, hts⟩ : ∃ ts, (ss.mergeSort fun x y => decide (x ≤ y)) = ts := ⟨_, rfl⟩
   have htl : ts.length = ss.length := by rw [← hts]; simp
   rw [hts] at hw4
   have hrow4 : w4.ownsRow w.heap.size 9 1 (.slice (some ⟨g, 0, none⟩) ss.length cap) ss.length (ts.map encStr) := by
    rw [hw4]; exact ownsRow_sorted htl HH.out.2.2.2.2.1 HH.out.1 HH.out.2.1 HH.out.2.2.1 HH.out.2.2.2.1
   have hg4 : wr.grownBy w4 (some g) := by rw [hw4]; exact grownBy_sorted _
   have hbl4 : RowKit.Below w.heap.size w w4 := HH.out.2.2.2.2.2.1.grown hg4 HH.out.2.2.2.2.2.1.size (fun j hj => by cases hj; exact HH.out.2.2.2.2.1)
   have hmap4 : w4.ownsMap Tryz.prog 176 (plainElem Tryz.prog 3) b n D := HH.out.2.2.2.2.2.2.1.kept hg4 (by intro h; injection h with h; have := HH.out.2.2.2.2.1; omega)
   have hs4 := hbl4.size
   have H4 := Lib.hid (And.intro hrow4 (And.intro hbl4 (And.intro hmap4 (And.intro hts htl))))
   have hsl : ss.length ≤ 1000 := by omega
   have HHI1 := Lib.hid hi1
   clear hrow4 hbl4 hmap4 hts htl hg4 hw4 hc hi1 hi
   go_wp2_with (at_make; go_loud (refine wpList_make_own _ rfl _ _ 37 rfl w.heap.size 48 i1 _ 5 Tryz.underlying37 HHI1.out hy0 hy1 _ _ _ ss.length rfl rfl rfl (by rw [hy2]; omega) (by unfold maxLen; omega) hs4 ?_); intro w5 hrow5 hg5)
   go_loopw [5, 29] (fun v5 i w6 => ∃ k, k ≤ ss.length ∧ i = .int .i64 (k : Int) ∧ ClaimR w b n g ss.length cap D f ts k v5 w6) (fun _ i _ => ss.length - (intOf i).toNat)
   case atStart =>
    exact ⟨0, Nat.zero_le _, rfl, by simpa using hrow5, H4.out.1.kept hg5 (Or.inr (by simp [Value.ownBlock])), H4.out.2.2.1.kept hg5 (by simp), H4.out.2.1.grown hg5 hs4 (fun j hj => by cases hj)⟩
   case round =>
    obtain ⟨k, hk, rfl, hcl, hnm, hmp, hbl⟩ := hrel
    rename World => w6
    have htl := H4.out.2.2.2.2
    by_cases hlt : k < ss.length
    ·obtain ⟨x, hx⟩ : ∃ x, ts[k]? = some x := ⟨_, List.getElem?_eq_getElem (by omega)⟩
     have hxs : x ∈ ss := by
      have h := List.mem_of_getElem? hx
      rw [← H4.out.2.2.2.1] at h
      exact List.mem_mergeSort.1 h
     have hcell : w6.cell? ⟨g, k, none⟩ = some (.string ⟨x.toArray⟩) := (hnm.cellAt k (by omega)).trans (by simp [hx, encStr])
     have hkey := keyOf_row (HH.out.2.2.2.2.2.2.2.2.2 x hxs)
     unfold rowV at hkey
     obtain ⟨A5, c5, rfl⟩ := ownsRow_slice hcl
     have hcl' := hcl.alloc (.cells #[.bool (f x == 2), .int .i64 (-1), .string ⟨x.toArray⟩, .int .i64 0, .int .i64 0] 48)
     have hnews := World.news_of_block (heap_alloc_new w6 (.cells #[.bool (f x == 2), .int .i64 (-1), .string ⟨x.toArray⟩, .int .i64 0, .int .i64 0] 48))
     have hfx := (hf x).1
     have HB := Lib.hid (And.intro hx (And.intro hcl (And.intro hnm (And.intro hmp (And.intro hbl (And.intro hcl' hnews))))))
     have HK := Lib.hid hkey
     have HF := Lib.hid hfx
     have hs6 := hbl.size
     clear hx hcl hnm hbl hkey htl hcl' hnews hfx hmp
     go_wp2_with (first | (at_lookup; go_loud (refine wpList_lookup_own_int _ rfl _ _ 171 rfl 176 3 .i64 lawK Tryz.underlying171 Tryz.underlying3 (Tryz.zero3 _) b n D rfl HB.out.2.2.2.1 _ _ rfl HK.out ?_); intro c hat hwc; obtain rfl : c = f x := (by rw [HF.out] at hat; simpa using hat.symm); clear hat hwc) | (at_builtin; go_loud (refine wpList_append_lies _ rfl _ _ 37 rfl w.heap.size 48 i1 _ 5 48 Tryz.underlying37 HHI1.out hy0 hy1 hy2 rfl (by decide) (.slice A5 k c5) k _ rfl HB.out.2.2.2.2.2.1 ⟨w6.heap.size, 0, none⟩ 1 1 [.bool (f x == 2), .int .i64 (-1), .string ⟨x.toArray⟩, .int .i64 0, .int .i64 0] rfl rfl HB.out.2.2.2.2.2.2 (by simp [Value.oneCell']) (by decide) (by unfold maxLen; omega) (by omega) (by simp; omega) _ rfl ?_); intro g2 cap2 w7 hown1 hgrow1 hat1 hlt1))
     go_roundw
     case rel =>
      obtain ⟨hx, hcl, hnm, hmp, hbl, _, _⟩ := HB.out
      refine ⟨k + 1, by omega, by go_num, ?_, ?_, ?_, ?_⟩
      ·have htk : ts.take (k + 1) = ts.take k ++ [x] := by rw [List.take_add_one, hx]; rfl
       rw [htk]
       simpa [rowCl, Cl.cells] using hown1
      ·exact (hnm.alloc _).kept hgrow1 (.inr (fun e => own_own_ne hnm hcl (by decide) (rfl : Value.ownBlock (.slice (some ⟨g, 0, none⟩) ss.length cap) = some g) e.symm))
      ·exact (hmp.alloc _).kept hgrow1 (fun e => by have := (hcl.lt b e.symm).1; omega)
      ·exact (hbl.alloc hs6 _).grown hgrow1 (by simp; omega) (fun j hj => (hcl.lt j hj).1)
     case measure => simp [intOf]; omega
    ·have hkl : k = ss.length := by omega
     subst hkl
     go_wp2_with fail
     go_ret
     rw [List.take_of_length_le (by omega)] at hcl
     obtain ⟨A5, c5, rfl⟩ := ownsRow_slice hcl
     obtain ⟨_, _, _, _, _, _, _, hnd, hks, _⟩ := HH.out
     refine ⟨ss, hsl, hnd, hks, A5, c5, ?_, ?_, hbl⟩
     ·simp
     ·rw [H4.out.2.2.2.1]
      simpa [htl] using hcl
  ·intro x c kl yd yp w2 cnt2 hkey hlk hv hat hrg2 hlt hg2 hs2 hen
   obtain ⟨x', ex, rfl, hxl⟩ := keyOf_row_inv hkey
   obtain rfl : x = x' := by unfold rowV at ex; simpa using ex
   have hrow2 := hrow.kept hg2 (Or.inr (row_ne_iter hrow hrg).symm)
   have hrow3 := (hrow2.alloc (.cells #[encStr x] 176)).alloc (.cells #[encStr x] 9)
   have hnews := World.news_of_block (heap_alloc_new (w2.alloc (.cells #[encStr x] 176)) (.cells #[encStr x] 9))
   rw [show (w2.alloc (.cells #[encStr x] 176)).heap.size = w2.heap.size + 1 by simp] at hnews
   have hsw := hnx.size
   have hsw2 := hg2.size
   have HH := Lib.hid (And.intro hrow3 (And.intro hnews (And.intro hrow2 (And.intro hs2 (And.intro hsw hsw2)))))
   have HHI := Lib.hid hi
   have HC := Lib.hid (And.intro hC (And.intro hlk (And.intro hat (And.intro hrg2 (And.intro hrg (And.intro hlen (And.intro hxl (And.intro hg2 hnx))))))))
   clear hs2 hrow3 hnews hsw hsw2 hC hlk hat hlen hkey hv
   unfold rowV at hen ⊢
   unfold encStr at HH
   go_wp2_with (at_builtin; go_loud (refine wpList_append_lies _ rfl _ _ 223 rfl w.heap.size 9 i0 _ 1 16 Tryz.underlying223 HHI.out hz0 hz1 hz2 rfl (by decide) u3 ss.length _ rfl HH.out.1 ⟨w2.heap.size + 1, 0, none⟩ 1 1 [.string ⟨x.toArray⟩] rfl rfl HH.out.2.1 (by simp [Value.oneCell']) (by decide) (by unfold maxLen; omega) (by omega) (by have := HH.out.2.2.2.2; simp; omega) _ rfl ?_); intro g2 cap w3 hown1 hgrow1 hat1 hlt1)
   have hr2 := (HC.out.2.2.2.1.alloc (.cells #[.string ⟨x.toArray⟩] 176)).alloc (.cells #[.string ⟨x.toArray⟩] 9)
   have hrg3 := hr2.kept hgrow1 (row_ne_low HH.out.2.2.1 hblo) (row_ne_iter HH.out.1 hr2)
   refine ⟨⟨_, cnt2, ss ++ [x], hrg3, HC.out.1.step HC.out.2.1 HC.out.2.2.1, by simp; omega, ?_, by simpa [encStr] using hown1, by simp, ?_⟩, by rw [hrg3.left_eq, HC.out.2.2.2.2.1.left_eq]; exact hlt⟩
   ·intro y hy
    rcases List.mem_append.1 hy with hy | hy
    ·exact HC.out.2.2.2.2.2.1 y hy
    ·simp at hy; subst hy; exact HC.out.2.2.2.2.2.2.1
   ·have hw := HH.out.2.2.2.2
    have hn1 := hg1.size
    exact ((((HC.out.2.2.2.2.2.2.2.2.grown HC.out.2.2.2.2.2.2.2.1 hw.1 (fun j hj => by cases hj; exact hn1)).alloc (by omega) _).alloc (by simp; omega) _).grown hgrow1 (by simp; omega) (fun j hj => (HH.out.2.2.1.lt j hj).1))
end
end Go.Proofs.YtagemonojdgbdaaGreatDoor
