/- Proved: LocksReads returns true for every input: numbers that only read are all ready, and one that writes a thing waits for all ahead that have it, and they for it; no condition. -/
import Derived.Test.YtdmpdlpfanfjoaaLocksReadsQ
namespace Go.Proofs.Ytdmpdlpfanfjoaa
open Go.ChangeShapes Go.WideShapes Go.ChangeAt Go.RowKit

theorem range_snoc (f : Nat → Int) (k : Nat) : (List.range (k + 1)).map f = (List.range k).map f ++ [f k] := by
  rw [List.range_succ]
  simp
/-- The numbers of those that read first. -/
def nA (a : Nat) : List Int := (List.range a).map (fun i : Nat => (i : Int))
def nC (c : Nat) : List Int := (List.range c).map (fun i : Nat => 100 + (i : Int))
theorem mem_nA {a : Nat} {i : Int} : i ∈ nA a ↔ 0 ≤ i ∧ i < (a : Int) := by
  unfold nA
  rw [List.mem_map]
  constructor
  · rintro ⟨k, hk, rfl⟩
    have := List.mem_range.1 hk
    omega
  · rintro ⟨h1, h2⟩
    exact ⟨i.toNat, List.mem_range.2 (by omega), by omega⟩
theorem mem_nC {c : Nat} {i : Int} : i ∈ nC c ↔ 100 ≤ i ∧ i < 100 + (c : Int) := by
  unfold nC
  rw [List.mem_map]
  constructor
  · rintro ⟨k, hk, rfl⟩
    have := List.mem_range.1 hk
    omega
  · rintro ⟨h1, h2⟩
    exact ⟨(i - 100).toNat, List.mem_range.2 (by omega), by omega⟩
theorem nA_len (a : Nat) : (nA a).length = a := by simp [nA]
theorem nC_len (a : Nat) : (nC a).length = a := by simp [nC]
theorem waits50_len {R W : List Cl} {l : List Ent} (h : RWl R W l) (c : CfRW R W) (hr : Rise l) {a d : Nat} (ha : a ≤ 10) (hn : nums l = nA a ++ [50] ++ nC d) : (waits l 50).length = a := by
  rw [waits_50 h c hr (by rw [hn]; simp), hn]
  rw [List.filter_append, List.filter_append]
  have h1 : (nA a).filter (fun j => decide (j < 50)) = nA a := List.filter_eq_self.2 (fun j hj => by have := mem_nA.1 hj; simp; omega)
  have h2 : (nC d).filter (fun j => decide (j < 50)) = [] := List.filter_eq_nil_iff.2 (fun j hj => by have := mem_nC.1 hj; simp; omega)
  rw [h1, h2]
  simp [nA_len]

set_option maxRecDepth 100000 in
set_option maxHeartbeats 2000000 in
theorem lreads_far (w0 : World) (v0 : Value) (l : List Cl) (x0 x1 : Int) (h0 : ClRd w0 (fun _ => True) v0 l)
    (hh : l.length < 1 ∨ (1 ≤ l.length ∧ 20 < l.length) ∨ ((1 ≤ l.length ∧ l.length ≤ 20) ∧ (x0 < 0 ∨ (0 ≤ x0 ∧ 10 < x0) ∨ ((0 ≤ x0 ∧ x0 ≤ 10) ∧ (x1 < 0 ∨ (0 ≤ x1 ∧ 10 < x1)))))) :
    Calls Try.prog 13 #[v0, .agg #[.int .i64 x0, .int .i64 x1]] w0 fun e w' => e = .returned (.bool true) ∧ Below w0.heap.size w0 w' := by
  obtain ⟨A0, c0, rfl, h1, h2⟩ := h0.slice
  have hlm : l.length ≤ 9223372036854775807 := by unfold maxLen at h2; omega
  clear h0 h1 h2
  have HB0 := Lib.hid (box1 w0 (.cells #[.int .i64 x0, .int .i64 x1] 54))
  rcases hh with hh | ⟨hh, hh2⟩ | ⟨⟨hh, hh2⟩, hh3 | ⟨hh3, hh4⟩ | ⟨⟨hh3, hh4⟩, hh5 | ⟨hh5, hh6⟩⟩⟩
  · skip
    go_enter Try.func13, Try.ntmps13
    go_wp2_with fail
    refine (awake10_ok _).mono ?_
    rintro e wq ⟨rfl, hb⟩
    have HB := Lib.hid (HB0.out.trans (hb.mono HB0.out.size))
    clear hb
    go_wp2_with fail
    go_ret
    exact ⟨rfl, HB.out⟩
  · skip
    go_enter Try.func13, Try.ntmps13
    go_wp2_with fail
    refine (awake10_ok _).mono ?_
    rintro e wq ⟨rfl, hb⟩
    have HB := Lib.hid (HB0.out.trans (hb.mono HB0.out.size))
    clear hb
    go_wp2_with fail
    go_ret
    exact ⟨rfl, HB.out⟩
  · skip
    go_enter Try.func13, Try.ntmps13
    go_wp2_with fail
    refine (awake10_ok _).mono ?_
    rintro e wq ⟨rfl, hb⟩
    have HB := Lib.hid (HB0.out.trans (hb.mono HB0.out.size))
    clear hb
    go_wp2_with fail
    go_ret
    exact ⟨rfl, HB.out⟩
  · skip
    go_enter Try.func13, Try.ntmps13
    go_wp2_with fail
    refine (awake10_ok _).mono ?_
    rintro e wq ⟨rfl, hb⟩
    have HB := Lib.hid (HB0.out.trans (hb.mono HB0.out.size))
    clear hb
    go_wp2_with fail
    go_ret
    exact ⟨rfl, HB.out⟩
  · skip
    go_enter Try.func13, Try.ntmps13
    go_wp2_with fail
    refine (awake10_ok _).mono ?_
    rintro e wq ⟨rfl, hb⟩
    have HB := Lib.hid (HB0.out.trans (hb.mono HB0.out.size))
    clear hb
    go_wp2_with fail
    go_ret
    exact ⟨rfl, HB.out⟩
  · skip
    go_enter Try.func13, Try.ntmps13
    go_wp2_with fail
    refine (awake10_ok _).mono ?_
    rintro e wq ⟨rfl, hb⟩
    have HB := Lib.hid (HB0.out.trans (hb.mono HB0.out.size))
    clear hb
    go_wp2_with fail
    go_ret
    exact ⟨rfl, HB.out⟩

set_option maxRecDepth 100000 in
set_option maxHeartbeats 8000000 in
theorem lreads_ok (w0 : World) (v0 : Value) (l : List Cl) (a d : Nat) (h0 : ClRd w0 (fun _ => True) v0 l) (hfit : ∀ c ∈ l, c.fits) (hl1 : 1 ≤ l.length) (hl : l.length ≤ 20) (ha : a ≤ 10) (hd : d ≤ 10) :
    Calls Try.prog 13 #[v0, .agg #[.int .i64 (a : Int), .int .i64 (d : Int)]] w0 fun e w' => e = .returned (.bool true) ∧ Below w0.heap.size w0 w' := by
  obtain ⟨i0, hi, hz0, hz1, hz2⟩ := info_parts Try.info28
  have HHI := Lib.hid hi
  obtain ⟨A0, c0, rfl, _, _⟩ := h0.slice
  have hb0 := box1 w0 (.cells #[.int .i64 (a : Int), .int .i64 (d : Int)] 54)
  have hbn := heap_alloc_new w0 (.cells #[.int .i64 (a : Int), .int .i64 (d : Int)] 54)
  have hr := RdK.below h0 hb0
  have hsz : w0.heap.size < (w0.alloc (.cells #[.int .i64 (a : Int), .int .i64 (d : Int)] 54)).heap.size := by simp
  clear h0 hi
  go_enter Try.func13, Try.ntmps13
  go_upto_region 1 with fail
  generalize w0.alloc (.cells #[.int .i64 (a : Int), .int .i64 (d : Int)] 54) = wz at hb0 hbn hr hsz ⊢
  obtain ⟨t0, t1, _, _⟩ := blk_cell2 hbn
  have HZ := Lib.hid (And.intro hb0 (And.intro hbn (And.intro (show ClRd wz (fun _ => True) _ l from hr) (And.intro hsz hfit))))
  clear hb0 hbn hr hsz hfit
  go_wp2_with fail
  clear t0 t1
  go_loopw [5, 6, 7] (fun v5 v6 i wr => ∃ k : Nat, k ≤ l.length ∧ i = .int .i64 (k : Int) ∧ BuildR wz l k v5 v6 wr) (fun _ _ i _ => l.length - (intOf i).toNat)
  case atStart => exact ⟨0, Nat.zero_le _, rfl, none, 0, none, 0, rfl, rfl, World.ownsRow_nil _ _ _ _, World.ownsRow_nil _ _ _ _, (fun g hg => by simp [Value.ownBlock] at hg), Below.refl _ _⟩
  case round =>
    obtain ⟨k, hk, rfl, A5, c5, A6, c6, rfl, rfl, ho5, ho6, hdis, hbl⟩ := hrel
    by_cases hlt : k < l.length
    · obtain ⟨x, hx⟩ : ∃ x, l[k]? = some x := ⟨_, List.getElem?_eq_getElem hlt⟩
      obtain ⟨bx, ox, rfl, _, d0, d1, d2, d3, d4⟩ := ClRd.at_ HZ.out.2.2.1 hx
      have hbb := World.block_lt_of_cell? _ _ d0
      have d0' := (hbl.cell (p := ⟨bx, ox + k * 5, none⟩) hbb).trans d0
      have d1' := (hbl.cell (p := ⟨bx, ox + k * 5 + 1, none⟩) hbb).trans d1
      have d2' := (hbl.cell (p := ⟨bx, ox + k * 5 + 2, none⟩) hbb).trans d2
      have d3' := (hbl.cell (p := ⟨bx, ox + k * 5 + 3, none⟩) hbb).trans d3
      have d4' := (hbl.cell (p := ⟨bx, ox + k * 5 + 4, none⟩) hbb).trans d4
      have HX := Lib.hid (And.intro hx (And.intro ho5 (And.intro ho6 (And.intro hdis hbl))))
      have hs0 := hbl.size
      clear hx ho5 ho6 hdis hbl d0 d1 d2 d3 d4
      go_upto_region 10 with fail
      clear d0' d1' d2' d3' d4'
      have hwa := heap_alloc_new wr (.cells #[.bool false, .int .i64 x.col, .string ⟨x.key.toArray⟩, .int .i64 x.lo, .int .i64 x.hi] 28)
      have hba := box1 wr (.cells #[.bool false, .int .i64 x.col, .string ⟨x.key.toArray⟩, .int .i64 x.lo, .int .i64 x.hi] 28)
      have hsa : (wr.alloc (.cells #[.bool false, .int .i64 x.col, .string ⟨x.key.toArray⟩, .int .i64 x.lo, .int .i64 x.hi] 28)).heap.size = wr.heap.size + 1 := by simp
      generalize wr.alloc (.cells #[.bool false, .int .i64 x.col, .string ⟨x.key.toArray⟩, .int .i64 x.lo, .int .i64 x.hi] 28) = wa at hwa hba hsa ⊢
      have hsa1 : wa.heap.size ≤ wr.heap.size + 1 := by omega
      have hsa2 : wr.heap.size + 1 ≤ wa.heap.size := by omega
      clear hsa
      obtain ⟨y0, y1, y2, y3, y4⟩ := blk_cell5 hwa
      have ho5a := own_below HX.out.2.1 hba
      have ho6a := own_below HX.out.2.2.1 hba
      have hn5 := World.news_of_block (heap_alloc_new wa (.cells #[.bool false, .int .i64 x.col, .string ⟨x.key.toArray⟩, .int .i64 x.lo, .int .i64 x.hi] 28))
      have HA := Lib.hid (And.intro (ho5a.alloc (.cells #[.bool false, .int .i64 x.col, .string ⟨x.key.toArray⟩, .int .i64 x.lo, .int .i64 x.hi] 28)) (And.intro hn5 (And.intro ho5a (And.intro ho6a (And.intro hwa hba)))))
      clear ho5a ho6a hn5 hwa hba
      go_upto_region 11 with (at_builtin; go_loud (refine wpList_append_lies _ rfl _ _ 22 rfl wz.heap.size 28 i0 _ 5 48 Try.underlying22 HHI.out hz0 hz1 hz2 rfl (by decide) (.slice A5 k c5) k _ rfl HA.out.1 ⟨wa.heap.size, 0, none⟩ 1 1 [.bool false, .int .i64 x.col, .string ⟨x.key.toArray⟩, .int .i64 x.lo, .int .i64 x.hi] rfl rfl HA.out.2.1 (by simp [Value.oneCell']) (by decide) (by unfold maxLen; omega) (by omega) (by simp; omega) _ rfl ?_); intro g5 cap5 w1 hown5 hgrow5 hat5 hlt5)
      have hs1 := hgrow5.size
      have hk5 : ∀ g, (Value.slice A5 k c5).ownBlock = some g → g < wr.heap.size := fun g hg => (HX.out.2.1.lt g hg).2
      have hk6 : ∀ g, (Value.slice A6 k c6).ownBlock = some g → g < wr.heap.size := fun g hg => (HX.out.2.2.1.lt g hg).2
      have hsb : (wa.alloc (.cells #[.bool false, .int .i64 x.col, .string ⟨x.key.toArray⟩, .int .i64 x.lo, .int .i64 x.hi] 28)).heap.size = wr.heap.size + 2 := by simp; omega
      have hwx1 : w1.heap[wr.heap.size]? = some (.cells #[.bool false, .int .i64 x.col, .string ⟨x.key.toArray⟩, .int .i64 x.lo, .int .i64 x.hi] 28 (0, 0)) := by
        rw [hgrow5.block _ (by omega) (fun e => by have := hk5 _ e.symm; omega), Below.heap_alloc _ _ _ (by omega)]
        exact HA.out.2.2.2.2.1
      have ho61 : w1.ownsRow wz.heap.size 28 5 (.slice A6 k c6) k (((l.take k).map (setW true)).map Cl.cells).flatten :=
        own_only HA.out.2.2.2.1 (((Only.refl (fun i => (Value.slice A5 k c5).ownBlock = some i) wa).alloc _).grown hgrow5 (fun i hi _ => hi)) (fun g hg e => HX.out.2.2.2.1 g e hg)
      have hg5n : g5 ≠ wr.heap.size := by
        rcases hat5 with h | h
        · have := hk5 _ h; omega
        · omega
      have hbel1 : Below wz.heap.size wz w1 := ((HX.out.2.2.2.2.trans (HA.out.2.2.2.2.2.mono hs0)).alloc (by omega) _).grown hgrow5 (by omega) (fun j hj => (HX.out.2.1.lt j hj).1)
      obtain ⟨z0, z1, z2, z3, z4⟩ := blk_cell5 hwx1
      have zf : w1.frozen? ⟨wr.heap.size, 0, none⟩ = false := by simp [World.frozen?, hwx1]
      have H1 := Lib.hid (And.intro hown5 (And.intro ho61 (And.intro hat5 (And.intro hbel1 (And.intro hwx1 (And.intro hk5 hk6))))))
      have hl1w : wr.heap.size + 2 ≤ w1.heap.size := by omega
      clear hown5 ho61 hgrow5 hat5 hlt5 hwx1 hbel1 hs1 hsb y0 y1 y2 y3 y4 hk5 hk6
      go_upto_region 12 with fail
      have ho2 := Only.set1 w1 wr.heap.size 0 (.bool true)
      have hwx2 := heap_setCell_same w1 wr.heap.size 0 _ _ (.bool true) H1.out.2.2.2.2.1
      have hs2 : (w1.setCell ⟨wr.heap.size, 0, none⟩ (.bool true)).heap.size = w1.heap.size := by simp [World.setCell]
      have ho52 := own_only H1.out.1 ho2 (fun g hg e => hg5n (by simp [Value.ownBlock] at hg; omega))
      have ho62 := own_only H1.out.2.1 ho2 (fun g hg e => by have := H1.out.2.2.2.2.2.2 g hg; omega)
      have hbel2 : Below wz.heap.size wz (w1.setCell ⟨wr.heap.size, 0, none⟩ (.bool true)) := H1.out.2.2.2.1.setCell hs0 _
      generalize w1.setCell ⟨wr.heap.size, 0, none⟩ (.bool true) = w2 at hwx2 hs2 ho52 ho62 hbel2 ⊢
      have hs21 : w2.heap.size ≤ w1.heap.size := by omega
      have hs22 : w1.heap.size ≤ w2.heap.size := by omega
      clear hs2
      have hwx2' : w2.heap[wr.heap.size]? = some (.cells #[.bool true, .int .i64 x.col, .string ⟨x.key.toArray⟩, .int .i64 x.lo, .int .i64 x.hi] 28 (0, 0)) := by simpa using hwx2
      clear ho2 hwx2 z0 z1 z2 z3 z4 zf
      obtain ⟨z0, z1, z2, z3, z4⟩ := blk_cell5 hwx2'
      have hn6 := World.news_of_block (heap_alloc_new w2 (.cells #[.bool true, .int .i64 x.col, .string ⟨x.key.toArray⟩, .int .i64 x.lo, .int .i64 x.hi] 28))
      have hs2z : wz.heap.size ≤ w2.heap.size := by omega
      have H2 := Lib.hid (And.intro (ho62.alloc (.cells #[.bool true, .int .i64 x.col, .string ⟨x.key.toArray⟩, .int .i64 x.lo, .int .i64 x.hi] 28)) (And.intro hn6 (And.intro ho52 (And.intro ho62 hbel2))))
      clear hwx2' hn6 ho52 ho62 hbel2
      go_wp2_with (at_builtin; go_loud (refine wpList_append_lies _ rfl _ _ 22 rfl wz.heap.size 28 i0 _ 5 48 Try.underlying22 HHI.out hz0 hz1 hz2 rfl (by decide) (.slice A6 k c6) k _ rfl H2.out.1 ⟨w2.heap.size, 0, none⟩ 1 1 [.bool true, .int .i64 x.col, .string ⟨x.key.toArray⟩, .int .i64 x.lo, .int .i64 x.hi] rfl rfl H2.out.2.1 (by simp [Value.oneCell']) (by decide) (by unfold maxLen; omega) (by omega) (by simp; omega) _ rfl ?_); intro g6 cap6 w3 hown6 hgrow6 hat6 hlt6)
      go_roundw
      case rel =>
        have hs3 := hgrow6.size
        have hsc : (w2.alloc (.cells #[.bool true, .int .i64 x.col, .string ⟨x.key.toArray⟩, .int .i64 x.lo, .int .i64 x.hi] 28)).heap.size = w2.heap.size + 1 := by simp
        refine ⟨k + 1, by omega, by go_num, some ⟨g5, 0, none⟩, cap5, some ⟨g6, 0, none⟩, cap6, rfl, rfl, ?_, ?_, ?_, ?_⟩
        · rw [take_setW HX.out.1]
          have h1 := own_only H2.out.2.2.1 (((Only.refl (fun i => (Value.slice A6 k c6).ownBlock = some i) w2).alloc _).grown hgrow6 (fun i hi _ => hi)) (fun g hg e => by
            have hg : g5 = g := by simpa [Value.ownBlock] using hg
            subst hg
            rcases H1.out.2.2.1 with h | h
            · exact HX.out.2.2.2.1 _ h e
            · have := H1.out.2.2.2.2.2.2 _ e
              rw [h] at this
              simp at this
              omega)
          exact h1
        · rw [take_setW HX.out.1]
          exact hown6
        · intro g hg hg2
          have hg : g5 = g := by simpa [Value.ownBlock] using hg
          have hg2 : g6 = g := by simpa [Value.ownBlock] using hg2
          subst hg hg2
          have h5 := (H2.out.2.2.1.lt g6 rfl).2
          rcases hat6 with h | h
          · rcases H1.out.2.2.1 with h' | h'
            · exact HX.out.2.2.2.1 _ h' h
            · have := H1.out.2.2.2.2.2.2 _ h
              rw [h'] at this
              simp at this
              omega
          · omega
        · exact (H2.out.2.2.2.2.alloc hs2z _).grown hgrow6 (by omega) (fun j hj => (H2.out.2.2.2.1.lt j hj).1)
      case measure => simp [intOf]; omega
    · have hkl : k = l.length := by omega
      subst hkl
      rw [List.take_length] at ho5 ho6
      have hr5 : ClRd wr (fun _ => True) (.slice A5 l.length c5) (l.map (setW false)) := RdK.of_own ho5 (cl_len _) (by decide) (fun _ _ => trivial)
      have hr6 : ClRd wr (fun _ => True) (.slice A6 l.length c6) (l.map (setW true)) := RdK.of_own ho6 (cl_len _) (by decide) (fun _ _ => trivial)
      have hf5 : ∀ c ∈ l.map (setW false), c.fits := fun c hc => by
        obtain ⟨e, he, rfl⟩ := List.mem_map.1 hc
        exact HZ.out.2.2.2.2 e he
      have hf6 : ∀ c ∈ l.map (setW true), c.fits := fun c hc => by
        obtain ⟨e, he, rfl⟩ := List.mem_map.1 hc
        exact HZ.out.2.2.2.2 e he
      have HRW := Lib.hid (And.intro hr5 (And.intro hr6 (And.intro hf5 (And.intro hf6 hbl))))
      clear ho5 ho6 hdis hr5 hr6 hf5 hf6 hbl
      go_wp2_with fail
      refine (new_ok wr (fun _ => True) _ (l.map (setW false)) HRW.out.1 (by simp; omega) HRW.out.2.2.1).mono ?_
      intro e w3 hnp
      obtain ⟨u1, n1, rfl, hnv⟩ := hnp.named
      have hb3 := hnv.1
      rcases hnv.cases with ⟨hn0, rfl⟩ | ⟨rfl, heR, R, hfR, h64R, AR, cR, rfl, hOR⟩
      · have e1 : (n1 == 0) = false := by simpa using hn0
        have e2 : (n1 != 0) = true := by simpa using hn0
        have hb3' : Below wr.heap.size wr (w3.alloc (.cells #[.slice none 0 0] 30)) := hb3.alloc hb3.size _
        have HB3 := Lib.hid hb3'
        clear hn0 hb3 hnv hnp hb3'
        go_wp2_with fail
        refine (new_ok _ (fun _ => True) _ (l.map (setW true)) (RdK.below HRW.out.2.1 HB3.out) (by simp; omega) HRW.out.2.2.2.1).mono ?_
        intro e w4 hnp
        obtain ⟨u2, n2, rfl, hnv⟩ := hnp.named
        obtain ⟨A7, m7, c7, rfl⟩ := hnv.slice
        have HB4 := Lib.hid (HZ.out.1.trans ((HRW.out.2.2.2.2.trans ((HB3.out.trans ((hnv.1.alloc hnv.1.size (.cells #[.slice A7 m7 c7] 30)).mono HB3.out.size)).mono HRW.out.2.2.2.2.size)).mono HZ.out.1.size))
        clear hnv hnp
        go_wp2_with fail
        refine (awake10_ok _).mono ?_
        rintro e wq ⟨rfl, hb⟩
        have HB := Lib.hid (HB4.out.trans (hb.mono HB4.out.size))
        clear hb
        go_wp2_with fail
        go_ret
        exact ⟨rfl, HB.out⟩
      · have hft := FtC.box (C := fun _ => False) hb3 hOR (Nat.le_refl _)
        have hbx : Below wr.heap.size wr (w3.alloc (.cells #[.slice AR R.length cR] 30)) := hb3.alloc hb3.size _
        clear hOR hnv hnp hb3
        go_upto_region 14 with fail
        generalize w3.alloc (.cells #[.slice AR R.length cR] 30) = w4 at hft hbx ⊢
        have HR4 := Lib.hid (And.intro hft (And.intro hbx (And.intro heR hfR)))
        clear hft hbx heR hfR
        go_wp2_with fail
        refine (new_ok w4 (fun _ => True) _ (l.map (setW true)) (RdK.below HRW.out.2.1 HR4.out.2.1) (by simp; omega) HRW.out.2.2.2.1).mono ?_
        intro e w5 hnp
        obtain ⟨u1, n1, rfl, hnv⟩ := hnp.named
        have hb5 := hnv.1
        rcases hnv.cases with ⟨hn0, rfl⟩ | ⟨rfl, heW, W, hfW, h64W, AW, cW, rfl, hOW⟩
        · have e1 : (n1 == 0) = false := by simpa using hn0
          have e2 : (n1 != 0) = true := by simpa using hn0
          have HB5 := Lib.hid (HZ.out.1.trans ((HRW.out.2.2.2.2.trans ((HR4.out.2.1.trans ((hb5.alloc hb5.size (.cells #[.slice none 0 0] 30)).mono HR4.out.2.1.size)).mono HRW.out.2.2.2.2.size)).mono HZ.out.1.size))
          clear hn0 hb5 hnv hnp
          go_wp2_with fail
          refine (awake10_ok _).mono ?_
          rintro e wq ⟨rfl, hb⟩
          have HB := Lib.hid (HB5.out.trans (hb.mono HB5.out.size))
          clear hb
          go_wp2_with fail
          go_ret
          exact ⟨rfl, HB.out⟩
        · have hft := FtC.box (C := Mor (fun _ => False) wr w4) hb5 hOW (Nat.le_refl _)
          have hbx : Below w4.heap.size w4 (w5.alloc (.cells #[.slice AW W.length cW] 30)) := hb5.alloc hb5.size _
          clear hOW hnv hnp hb5
          go_upto_region 15 with fail
          generalize w5.alloc (.cells #[.slice AW W.length cW] 30) = w6 at hft hbx ⊢
          have hfR6 := HR4.out.1.mor hbx
          have hcl : ∀ k, Mor (Mor (fun _ => False) wr w4) w4 w6 k → k < w6.heap.size := by
            rintro k ((hk | hk) | hk)
            · exact hk.elim
            · exact Nat.lt_of_lt_of_le hk.2 hbx.size
            · exact hk.2
          obtain ⟨D, hD⟩ : ∃ D, Mor (Mor (fun _ => False) wr w4) w4 w6 = D := ⟨_, rfl⟩
          rw [hD] at hft hfR6 hcl
          have hcf : CfRW R W := cf_forms (fun e => by subst e; simp at hl1) (Good.setW HZ.out.2.2.2.2 (ok_of_errOf HR4.out.2.2.1)) (Good.setW HZ.out.2.2.2.2 (ok_of_errOf heW)) HR4.out.2.2.2 hfW
          have hb06 := HRW.out.2.2.2.2.trans ((HR4.out.2.1.trans (hbx.mono HR4.out.2.1.size)).mono HRW.out.2.2.2.2.size)
          have H6 := Lib.hid (And.intro hft (And.intro hfR6 (And.intro hcl (And.intro hcf hb06))))
          clear hft hbx hfR6 hcl hD hcf hb06 heW hfW
          go_wp2_with fail
          refine (lnew_ok w6).mono ?_
          rintro e w7 ⟨b, rfl, hb7, hl7⟩
          have hx7 : One wz w7 (New w6 w7) D b false 0 [] 0 := ⟨hl7.moreC (fun _ h => h.elim) (fun k hk => ⟨Nat.lt_of_lt_of_le (H6.out.2.2.1 k hk) hb7.size, fun hn => by have := H6.out.2.2.1 k hk; have := hn.1; omega⟩), fun k hk => Nat.le_trans H6.out.2.2.2.2.size hk.1, H6.out.2.2.2.2.trans (hb7.mono H6.out.2.2.2.2.size)⟩
          have hst : ReadS wz b R W w3.heap.size AR cR w5.heap.size AW cW 0 0 [] w7 := ⟨_, D, 0, false, 0, hx7, H6.out.2.1.below hb7, H6.out.1.below hb7, RWl.nil _ _, Nat.le_refl _, (fun h => by cases h)⟩
          have HST := Lib.hid hst
          have HCF := Lib.hid H6.out.2.2.2.1
          clear hb7 hl7 hx7 hst H6 HRW HR4
          obtain ⟨BR, hBR⟩ : ∃ BR, w3.heap.size = BR := ⟨_, rfl⟩
          obtain ⟨BW, hBW⟩ : ∃ BW, w5.heap.size = BW := ⟨_, rfl⟩
          rw [hBR, hBW] at HST
          rw [hBR, hBW]
          clear hBR hBW
          go_wp2_with fail
          go_loopw [14] (fun i wr => ∃ k : Nat, k ≤ a ∧ i = .int .i64 (k : Int) ∧ ∃ ln, nums ln = nA k ∧ ReadS wz b R W BR AR cR BW AW cW (k : Int) (100 * k) ln wr) (fun i _ => a - (intOf i).toNat)
          case atStart => exact ⟨0, Nat.zero_le _, rfl, [], rfl, HST.out⟩
          case round =>
            obtain ⟨k, hk, rfl, ln, hnn, hS⟩ := hrel
            rename World => w8
            have hlen : ln.length = k := by have := congrArg List.length hnn; rw [nA_len] at this; simpa [nums] using this
            have hll : ln.length ≤ 10 := by omega
            have tb : w8.heap[w0.heap.size]? = some (.cells #[.int .i64 (a : Int), .int .i64 (d : Int)] 54 (0, 0)) := by rw [hS.bel.block _ HZ.out.2.2.2.1]; exact HZ.out.2.1
            obtain ⟨t0, t1, _, _⟩ := blk_cell2 tb
            have cR_ := hS.cellR
            have cW_ := hS.cellW
            have H8 := Lib.hid (And.intro hS (And.intro hnn (And.intro hlen tb)))
            clear hS hnn hlen HST tb
            by_cases hlt2 : k < a
            · go_wp2_with fail
              refine (H8.out.1.enqR (id := (k : Int)) (Int.le_refl _) (by unfold I64; omega) (by omega) (by omega) (by omega) h64R).mono ?_
              rintro e w9 ⟨rfl, hS9⟩
              have H9 := Lib.hid hS9
              clear hS9 t0 t1 cR_ cW_
              go_wp2_with fail
              go_roundw
              case rel => exact ⟨k + 1, by omega, by go_num, ln ++ [((k : Int), R)], by rw [nums_snoc, H8.out.2.1]; unfold nA; rw [List.range_succ]; simp, by have := H9.out.mono (N' := 100 * (k + 1)) (by have := H8.out.2.2.1; omega); simpa using this⟩
              case measure => simp [intOf]; omega
            · have hka : k = a := by omega
              subst hka
              have hnot : (50 : Int) ∉ nums ln := by rw [H8.out.2.1]; intro hh; have := mem_nA.1 hh; omega
              have hrl : (ready ln).length = k := by rw [ready_reads H8.out.1.rw HCF.out H8.out.1.rise hnot, H8.out.2.1, nA_len]
              have HRL := Lib.hid hrl
              have hlt0 : w0.heap.size < w8.heap.size := World.block_lt_of_cell? _ _ t0
              clear hrl hnot
              go_upto_region 24 with fail
              refine wp_region_held_drew (S := (fun w' => Below w8.heap.size w8 w')) (by kernel_rfl) (Below.refl _ _).drew (fun hHeld => ?_)
              refine takeL (i := 0) (v := ?_) rfl (by kernel_rfl) (by kernel_rfl) (by kernel_rfl) (fun _ _ _ h => h) (by rfl) (fun wS hSw => ?_) hHeld ?_
              rotate_left
              · go_simp; try with_reducible rfl
              try simp only [Act.put, List.setIfInBounds_toArray, List.set_cons_zero, List.set_cons_succ]
              refine takeL (i := 3) (v := ?_) rfl (by kernel_rfl) (by kernel_rfl) (by kernel_rfl) (fun _ _ _ h => h) (by rfl) (fun wS hSw => ?_) hHeld ?_
              rotate_left
              · go_simp; try with_reducible rfl
              try simp only [Act.put, List.setIfInBounds_toArray, List.set_cons_zero, List.set_cons_succ]
              refine takeL (i := 4) (v := ?_) rfl (by kernel_rfl) (by kernel_rfl) (by kernel_rfl) (fun _ _ _ h => h) (by rfl) (fun wS hSw => ?_) hHeld ?_
              rotate_left
              · have s1 := (Below.cell hSw (p := ⟨w0.heap.size, 0, none⟩) hlt0).trans t0; go_simp; try with_reducible rfl
              try simp only [Act.put, List.setIfInBounds_toArray, List.set_cons_zero, List.set_cons_succ]
              refine wpAnyH_ready (rs := [1]) (by kernel_rfl) (by simp) (consL (i := 1) rfl (fun K hK => ?_) AllReadyH.nil)
              go_simp
              refine ((H8.out.1.below hHeld).readyN (by omega) HRL.out).mono ?_
              rintro e wn ⟨A9, c9, rfl, hbn⟩
              try go_simp
              refine hK.out _ _ (hHeld.trans (hbn.mono hHeld.size)) (fun hHeld2 => ?_)
              clear hK K hHeld
              have hHeld := hHeld2
              clear hHeld2
              try simp only [Act.put, List.setIfInBounds_toArray, List.set_cons_zero, List.set_cons_succ]
              refine takeL (i := 2) (v := ?_) rfl (by kernel_rfl) (by kernel_rfl) (by kernel_rfl) (fun _ _ _ h => h) (by rfl) (fun wS hSw => ?_) hHeld ?_
              rotate_left
              · go_simp; try with_reducible rfl
              try simp only [Act.put, List.setIfInBounds_toArray, List.set_cons_zero, List.set_cons_succ]
              refine takeL (i := 5) (v := ?_) rfl (by kernel_rfl) (by kernel_rfl) (by kernel_rfl) (fun _ _ _ h => h) (by rfl) (fun wS hSw => ?_) hHeld ?_
              rotate_left
              · go_simp; try with_reducible rfl
              try simp only [Act.put, List.setIfInBounds_toArray, List.set_cons_zero, List.set_cons_succ]
              refine wpAnyH_done (by kernel_rfl) ?_ _
              have H9 := Lib.hid (H8.out.1.below hHeld)
              have cW9 := H9.out.cellW
              clear hHeld hlt0 t0 t1 cR_ cW_
              go_wp2_with fail
              refine (H9.out.enqW (by omega) (by omega) (by omega) h64W).mono ?_
              rintro e w10 ⟨rfl, hS10⟩
              have hn10 : nums (ln ++ [(50, W)]) = nA k ++ [50] ++ nC 0 := by rw [nums_snoc, H8.out.2.1]; simp [nC]
              have H10 := Lib.hid (And.intro (ReadS.monoB (hS10.mono (N' := 3000) (by omega)) (B' := 100) (by omega)) hn10)
              clear hS10 hn10 cW9 H9 HRL
              go_wp2_with fail
              go_loopw [15] (fun i w11 => ∃ k3 : Nat, k3 ≤ d ∧ i = .int .i64 (k3 : Int) ∧ ∃ l3, nums l3 = nA k ++ [50] ++ nC k3 ∧ ReadS wz b R W BR AR cR BW AW cW (100 + (k3 : Int)) (3000 + 100 * k3) l3 w11) (fun i _ => d - (intOf i).toNat)
              case atStart => exact ⟨0, Nat.zero_le _, rfl, _, H10.out.2, by simpa using H10.out.1⟩
              case round =>
                obtain ⟨k3, hk3, rfl, l3, hn3, hS⟩ := hrel
                rename World => w11
                have hlen : l3.length = k + 1 + k3 := by
                  have := congrArg List.length hn3
                  rw [List.length_append, List.length_append, nA_len, nC_len] at this
                  simpa [nums] using this
                have hll : l3.length ≤ 30 := by omega
                have tb : w11.heap[w0.heap.size]? = some (.cells #[.int .i64 (k : Int), .int .i64 (d : Int)] 54 (0, 0)) := by rw [hS.bel.block _ HZ.out.2.2.2.1]; exact HZ.out.2.1
                obtain ⟨t0, t1, _, _⟩ := blk_cell2 tb
                have cR_ := hS.cellR
                have H11 := Lib.hid (And.intro hS (And.intro hn3 hlen))
                clear hS hn3 hlen tb H10
                by_cases hlt3 : k3 < d
                · go_wp2_with fail
                  refine (H11.out.1.enqR (id := 100 + (k3 : Int)) (Int.le_refl _) (by unfold I64; omega) (by omega) (by omega) (by omega) h64R).mono ?_
                  rintro e w12 ⟨rfl, hS12⟩
                  have H12 := Lib.hid hS12
                  clear hS12 t0 t1 cR_
                  go_wp2_with fail
                  go_roundw
                  case rel => exact ⟨k3 + 1, by omega, by go_num, l3 ++ [(100 + (k3 : Int), R)], by rw [nums_snoc, H11.out.2.1]; unfold nC; rw [List.range_succ]; simp, by have := (H12.out.mono (N' := 3000 + 100 * (k3 + 1)) (by omega)).monoB (B' := 100 + ((k3 + 1 : Nat) : Int)) (by omega); exact this⟩
                  case measure => simp [intOf]; omega
                · have hk3d : k3 = d := by omega
                  subst hk3d
                  have h50 : (50 : Int) ∈ nums l3 := by rw [H11.out.2.1]; simp
                  have hw50 : (waits l3 50).length = k := waits50_len H11.out.1.rw HCF.out H11.out.1.rise (by omega) H11.out.2.1
                  have hC : ∀ i : Nat, i < k3 → (100 + (i : Int)) ∈ nums l3 := fun i hi => by rw [H11.out.2.1]; exact List.mem_append_right _ (mem_nC.2 (by omega))
                  have hmem : ∀ i, i ∈ nums l3 ↔ (((0 : Nat) : Int) ≤ i ∧ i < (k : Int)) ∨ i = 50 ∨ (100 ≤ i ∧ i < 100 + (k3 : Int)) := fun i => by
                    rw [H11.out.2.1, List.mem_append, List.mem_append, mem_nA, mem_nC]
                    simp [or_assoc]
                  have HW := Lib.hid (And.intro h50 (And.intro hw50 (And.intro hC hmem)))
                  clear h50 hw50 hC hmem
                  go_upto_region 31 with fail
                  clear t0 t1
                  go_wp2_with fail
                  refine (H11.out.1.waits (id := 50) (by unfold I64; omega) HW.out.1 (by omega)).mono ?_
                  rintro e w12 ⟨A12, c12, rfl, _, hb12⟩
                  rw [HW.out.2.1]
                  have H12 := Lib.hid (H11.out.1.below hb12)
                  have tb : w12.heap[w0.heap.size]? = some (.cells #[.int .i64 (k : Int), .int .i64 (k3 : Int)] 54 (0, 0)) := by rw [H12.out.bel.block _ HZ.out.2.2.2.1]; exact HZ.out.2.1
                  obtain ⟨t0, t1, _, _⟩ := blk_cell2 tb
                  clear hb12 tb cR_
                  go_wp2_with fail
                  clear t0 t1
                  go_loopw [18] (fun i w13 => ∃ k4 : Nat, k4 ≤ k3 ∧ i = .int .i64 (k4 : Int) ∧ ReadS wz b R W BR AR cR BW AW cW (100 + (k3 : Int)) (3000 + 100 * k3) l3 w13) (fun i _ => k3 - (intOf i).toNat)
                  case atStart => exact ⟨0, Nat.zero_le _, rfl, H12.out⟩
                  case round =>
                    obtain ⟨k4, hk4, rfl, hS⟩ := hrel
                    rename World => w13
                    have tb : w13.heap[w0.heap.size]? = some (.cells #[.int .i64 (k : Int), .int .i64 (k3 : Int)] 54 (0, 0)) := by rw [hS.bel.block _ HZ.out.2.2.2.1]; exact HZ.out.2.1
                    obtain ⟨t0, t1, _, _⟩ := blk_cell2 tb
                    have H13 := Lib.hid hS
                    clear hS tb H12
                    by_cases hlt4 : k4 < k3
                    · have hwl := waits_late H13.out.rw HCF.out H13.out.rise HW.out.1 (HW.out.2.2.1 k4 hlt4) (by omega)
                      have hrf := rdy_late H13.out.rw HCF.out H13.out.rise HW.out.1 (HW.out.2.2.1 k4 hlt4) (by omega)
                      have HWL := Lib.hid (And.intro hwl hrf)
                      clear hwl hrf
                      go_upto_region 37 with fail
                      clear t0 t1
                      go_wp2_with fail
                      refine (H13.out.waits (id := 100 + (k4 : Int)) (by unfold I64; omega) (HW.out.2.2.1 k4 hlt4) (by omega)).mono ?_
                      rintro e w14 ⟨A14, c14, rfl, hr14, hb14⟩
                      rw [HWL.out.1] at hr14 ⊢
                      have H14 := Lib.hid (And.intro (H13.out.below hb14) hr14)
                      clear hr14 hb14
                      go_wp2_with fail
                      have hd1 := box1 w14 (.cells #[.int .i64 50] 3)
                      have hd2 := rd_of_block (xs := [50]) (heap_alloc_new w14 (.cells #[.int .i64 50] 3)) rfl (by simp [maxLen])
                      refine (ints_ok _ _ _ _ _ [50] [50] (H14.out.2.below hd1) hd2 (by simp)).mono ?_
                      rintro e w15 ⟨r, hr, rfl, hb15⟩
                      obtain rfl : r = true := hr.2 rfl
                      have H15 := Lib.hid ((H14.out.1.below hd1).below hb15)
                      clear hr hb15 hd1 hd2 H14
                      go_wp2_with fail
                      refine (H15.out.relW (id := 100 + (k4 : Int)) (by unfold I64; omega) (HW.out.2.2.1 k4 hlt4) HWL.out.2 (by omega) (by omega)).mono ?_
                      rintro e w16 ⟨rfl, hS16⟩
                      have H16 := Lib.hid hS16
                      clear hS16 H15
                      go_wp2_with fail
                      go_roundw
                      case rel => exact ⟨k4 + 1, by omega, by go_num, H16.out⟩
                      case measure => simp [intOf]; omega
                    · have hk4d : k4 = k3 := by omega
                      subst hk4d
                      have HR0 := Lib.hid (show ∃ l5, (∀ i, i ∈ nums l5 ↔ (((0 : Nat) : Int) ≤ i ∧ i < (k : Int)) ∨ i = 50 ∨ (100 ≤ i ∧ i < 100 + (k4 : Int))) ∧ l5.length + 0 = k + 1 + k4 ∧ ReadS wz b R W BR AR cR BW AW cW (100 + (k4 : Int)) (5000 + 100 * 0) l5 w13 from ⟨l3, HW.out.2.2.2, by have := H11.out.2.2; omega, H13.out.mono (by omega)⟩)
                      go_upto_region 40 with fail
                      clear t0 t1
                      go_wp2_with fail
                      go_loopw [21] (fun i w17 => ∃ k5 : Nat, k5 ≤ k ∧ i = .int .i64 (k5 : Int) ∧ ∃ l5, (∀ i, i ∈ nums l5 ↔ ((k5 : Int) ≤ i ∧ i < (k : Int)) ∨ i = 50 ∨ (100 ≤ i ∧ i < 100 + (k4 : Int))) ∧ l5.length + k5 = k + 1 + k4 ∧ ReadS wz b R W BR AR cR BW AW cW (100 + (k4 : Int)) (5000 + 100 * k5) l5 w17) (fun i _ => k - (intOf i).toNat)
                      case atStart => exact ⟨0, Nat.zero_le _, rfl, HR0.out⟩
                      case round =>
                        obtain ⟨k5, hk5, rfl, l5, hm5, hlen5, hS⟩ := hrel
                        rename World => w17
                        have hl5 : l5.length ≤ 30 := by omega
                        have tb : w17.heap[w0.heap.size]? = some (.cells #[.int .i64 (k : Int), .int .i64 (k4 : Int)] 54 (0, 0)) := by rw [hS.bel.block _ HZ.out.2.2.2.1]; exact HZ.out.2.1
                        obtain ⟨t0, t1, _, _⟩ := blk_cell2 tb
                        have H17 := Lib.hid (And.intro hS (And.intro hm5 hlen5))
                        clear hS hm5 hlen5 tb HR0
                        by_cases hlt5 : k5 < k
                        · have hk5m : (k5 : Int) ∈ nums l5 := (H17.out.2.1 _).2 (.inl (by omega))
                          have hrdy : (k5 : Int) ∈ ready l5 := mem_ready.2 ⟨hk5m, rdy_early H17.out.1.rw HCF.out H17.out.1.rise (by omega)⟩
                          have HRD := Lib.hid (And.intro hk5m hrdy)
                          clear hk5m hrdy
                          go_upto_region 43 with fail
                          clear t0 t1
                          go_wp2_with fail
                          refine (H17.out.1.relY (id := (k5 : Int)) (by unfold I64; omega) HRD.out.2 (by omega) (by omega)).mono ?_
                          rintro e w18 ⟨rfl, hS18⟩
                          have H18 := Lib.hid hS18
                          clear hS18
                          go_wp2_with fail
                          go_roundw
                          case rel =>
                            have hlo := outL_len H17.out.1.rise HRD.out.1
                            refine ⟨k5 + 1, by omega, by go_num, outL l5 (k5 : Int), fun i => ?_, by have := H17.out.2.2; omega, H18.out.mono (by omega)⟩
                            rw [mem_nums_out, H17.out.2.1]
                            omega
                          case measure => simp [intOf]; omega
                        · have hk5k : k5 = k := by omega
                          subst hk5k
                          have h50 : (50 : Int) ∈ nums l5 := (H17.out.2.1 50).2 (.inr (.inl rfl))
                          have hr50 : ready l5 = [50] := ready_50 H17.out.1.rw HCF.out H17.out.1.rise h50 (fun i hi => by have := (H17.out.2.1 i).1 hi; omega)
                          have hlo := outL_len H17.out.1.rise h50
                          have hlen6 : (outL l5 50).length = k4 := by have := H17.out.2.2; omega
                          have H50 := Lib.hid (And.intro h50 (And.intro hr50 hlen6))
                          clear h50 hr50 hlo hlen6
                          go_upto_region 45 with fail
                          clear t0 t1
                          go_wp2_with fail
                          refine (H17.out.1.ready (by omega)).mono ?_
                          rintro e w18 ⟨A18, c18, rfl, hr18, hb18⟩
                          rw [H50.out.2.1] at hr18 ⊢
                          have H18 := Lib.hid (And.intro (H17.out.1.below hb18) hr18)
                          clear hr18 hb18
                          go_wp2_with fail
                          have hd1 := box1 w18 (.cells #[.int .i64 50] 3)
                          have hd2 := rd_of_block (xs := [50]) (heap_alloc_new w18 (.cells #[.int .i64 50] 3)) rfl (by simp [maxLen])
                          refine (ints_ok _ _ _ _ _ [50] [50] (H18.out.2.below hd1) hd2 (by simp)).mono ?_
                          rintro e w19 ⟨r, hr, rfl, hb19⟩
                          obtain rfl : r = true := hr.2 rfl
                          have H19 := Lib.hid ((H18.out.1.below hd1).below hb19)
                          clear hr hb19 hd1 hd2 H18
                          go_wp2_with fail
                          refine (H19.out.relY (id := 50) (by unfold I64; omega) (by rw [H50.out.2.1]; simp) (by omega) (by omega)).mono ?_
                          rintro e w20 ⟨rfl, hS20⟩
                          have tb : w20.heap[w0.heap.size]? = some (.cells #[.int .i64 (k5 : Int), .int .i64 (k4 : Int)] 54 (0, 0)) := by rw [hS20.bel.block _ HZ.out.2.2.2.1]; exact HZ.out.2.1
                          obtain ⟨t0, t1, _, _⟩ := blk_cell2 tb
                          have hlt0 : w0.heap.size < w20.heap.size := World.block_lt_of_cell? _ _ t0
                          have hn50 : (50 : Int) ∉ nums (outL l5 50) := out_not _
                          have hrl : (ready (outL l5 50)).length = k4 := by
                            rw [ready_reads hS20.rw HCF.out hS20.rise hn50]
                            have : (nums (outL l5 50)).length = (outL l5 50).length := by simp [nums]
                            rw [this]
                            exact H50.out.2.2
                          have H20 := Lib.hid (And.intro hS20 hrl)
                          clear hS20 tb hn50 hrl H19
                          have hlo20 := outL_le l5 50
                          go_upto_region 47 with fail
                          refine wp_region_held_drew (S := (fun w' => Below w20.heap.size w20 w')) (by kernel_rfl) (Below.refl _ _).drew (fun hHeld => ?_)
                          refine takeL (i := 0) (v := ?_) rfl (by kernel_rfl) (by kernel_rfl) (by kernel_rfl) (fun _ _ _ h => h) (by rfl) (fun wS hSw => ?_) hHeld ?_
                          rotate_left
                          · go_simp; try with_reducible rfl
                          try simp only [Act.put, List.setIfInBounds_toArray, List.set_cons_zero, List.set_cons_succ]
                          refine takeL (i := 3) (v := ?_) rfl (by kernel_rfl) (by kernel_rfl) (by kernel_rfl) (fun _ _ _ h => h) (by rfl) (fun wS hSw => ?_) hHeld ?_
                          rotate_left
                          · go_simp; try with_reducible rfl
                          try simp only [Act.put, List.setIfInBounds_toArray, List.set_cons_zero, List.set_cons_succ]
                          refine takeL (i := 4) (v := ?_) rfl (by kernel_rfl) (by kernel_rfl) (by kernel_rfl) (fun _ _ _ h => h) (by rfl) (fun wS hSw => ?_) hHeld ?_
                          rotate_left
                          · have s1 := (Below.cell hSw (p := ⟨w0.heap.size, 1, none⟩) hlt0).trans t1; go_simp; try with_reducible rfl
                          try simp only [Act.put, List.setIfInBounds_toArray, List.set_cons_zero, List.set_cons_succ]
                          refine wpAnyH_ready (rs := [1]) (by kernel_rfl) (by simp) (consL (i := 1) rfl (fun K hK => ?_) AllReadyH.nil)
                          go_simp
                          refine ((H20.out.1.below hHeld).readyN (by omega) H20.out.2).mono ?_
                          rintro e wn ⟨A21, c21, rfl, hbn⟩
                          try go_simp
                          refine hK.out _ _ (hHeld.trans (hbn.mono hHeld.size)) (fun hHeld2 => ?_)
                          clear hK K hHeld
                          have hHeld := hHeld2
                          clear hHeld2
                          try simp only [Act.put, List.setIfInBounds_toArray, List.set_cons_zero, List.set_cons_succ]
                          refine takeL (i := 2) (v := ?_) rfl (by kernel_rfl) (by kernel_rfl) (by kernel_rfl) (fun _ _ _ h => h) (by rfl) (fun wS hSw => ?_) hHeld ?_
                          rotate_left
                          · go_simp; try with_reducible rfl
                          try simp only [Act.put, List.setIfInBounds_toArray, List.set_cons_zero, List.set_cons_succ]
                          refine takeL (i := 5) (v := .bool true) rfl (by kernel_rfl) (by kernel_rfl) (by kernel_rfl) (fun _ _ _ h => h) (by rfl) (fun wS hSw => ?_) hHeld ?_
                          · go_simp
                          try simp only [Act.put, List.setIfInBounds_toArray, List.set_cons_zero, List.set_cons_succ]
                          refine takeL (i := 6) (v := ?_) rfl (by kernel_rfl) (by kernel_rfl) (by kernel_rfl) (fun _ _ _ h => h) (by rfl) (fun wS hSw => ?_) hHeld ?_
                          rotate_left
                          · go_simp; try with_reducible rfl
                          try simp only [Act.put, List.setIfInBounds_toArray, List.set_cons_zero, List.set_cons_succ]
                          refine wpAnyH_ready (rs := [7]) (by kernel_rfl) (by simp) (consL (i := 7) rfl (fun K hK => ?_) AllReadyH.nil)
                          go_simp
                          refine (awake10_ok _).mono ?_
                          rintro e wn ⟨rfl, hbn⟩
                          try go_simp
                          refine hK.out _ _ (hHeld.trans (hbn.mono hHeld.size)) (fun hHeld2 => ?_)
                          clear hK K hHeld
                          have hHeld := hHeld2
                          clear hHeld2
                          try simp only [Act.put, List.setIfInBounds_toArray, List.set_cons_zero, List.set_cons_succ]
                          refine takeL (i := 8) (v := ?_) rfl (by kernel_rfl) (by kernel_rfl) (by kernel_rfl) (fun _ _ _ h => h) (by rfl) (fun wS hSw => ?_) hHeld ?_
                          rotate_left
                          · go_simp; try with_reducible rfl
                          try simp only [Act.put, List.setIfInBounds_toArray, List.set_cons_zero, List.set_cons_succ]
                          refine takeL (i := 9) (v := ?_) rfl (by kernel_rfl) (by kernel_rfl) (by kernel_rfl) (fun _ _ _ h => h) (by rfl) (fun wS hSw => ?_) hHeld ?_
                          rotate_left
                          · go_simp; try with_reducible rfl
                          try simp only [Act.put, List.setIfInBounds_toArray, List.set_cons_zero, List.set_cons_succ]
                          refine wpAnyH_done (by kernel_rfl) ?_ _
                          have HBF := Lib.hid (HZ.out.1.trans ((H20.out.1.bel.trans (hHeld.mono H20.out.1.bel.size)).mono HZ.out.1.size))
                          clear hHeld
                          go_wp2_with fail
                          go_ret
                          exact ⟨rfl, HBF.out⟩

set_option maxRecDepth 100000 in
theorem locksReads_lifted (os : Os) (started : os.Started) (H : Type) (enc : TypeId × Value → H) :
    ReturnsInHanded {} Try.checked os 13 .any (Rows.locksReadsSpec.pre6 enc Try.prog Try.f13 Rows.locksReadsRow.domain false) (Rows.locksReadsSpec.post enc Try.prog Try.f13 false true false false) := by
  refine law_lifted os started H enc 13 Try.f13 Rows.locksReadsSpec (by kernel_rfl) Try.func13 rfl (by kernel_rfl) ?_ ?_
    (ChangeSpec.witness6 (enc := enc) (C := Try.checked) false ⟨#[], #[.slice none 0 0, .agg #[.int .i64 0, .int .i64 0]], []⟩ 8 (by kernel_rfl) (by kernel_rfl) (by kernel_rfl) (by kernel_rfl)) ?_
  · rw [Try.params13]
    intro t ht
    simp at ht
    rcases ht with rfl | rfl
    · exact ⟨by kernel_rfl, of_decide_eq_true (by kernel_rfl)⟩
    · exact ⟨by kernel_rfl, of_decide_eq_true (by kernel_rfl)⟩
  · intro ds hl
    rw [Try.params13] at hl
    match ds, hl with
    | [d1, d2], _ => exact ⟨rfl, rfl, rfl⟩
  · intro W base args ds p hval hA
    rw [Try.params13] at hA hval
    obtain ⟨v0, v1, d0, d1, p0, p1, hargs, rfl, rfl, h0, h1⟩ := trodAll_two hA
    subst hargs
    obtain ⟨l0, r0, f0⟩ := claims_of_trod (hval 0 22 v0 rfl rfl) h0
    obtain ⟨x1, q1⟩ := open_two (hval 1 54 v1 rfl rfl) h1
    obtain ⟨y1, rfl, _, _⟩ := q1
    by_cases hh : l0.length < 1 ∨ (1 ≤ l0.length ∧ 20 < l0.length) ∨ ((1 ≤ l0.length ∧ l0.length ≤ 20) ∧ (x1 < 0 ∨ (0 ≤ x1 ∧ 10 < x1) ∨ ((0 ≤ x1 ∧ x1 ≤ 10) ∧ (y1 < 0 ∨ (0 ≤ y1 ∧ 10 < y1)))))
    · exact lreads_far W v0 l0 x1 y1 r0 hh
    · obtain ⟨a, rfl⟩ : ∃ a : Nat, x1 = (a : Int) := ⟨x1.toNat, by omega⟩
      obtain ⟨d, rfl⟩ : ∃ d : Nat, y1 = (d : Int) := ⟨y1.toNat, by omega⟩
      exact lreads_ok W v0 l0 a d r0 f0 (by omega) (by omega) (by omega) (by omega)

theorem locksReads_holds : Rows.LocksReadsSaid :=
  OpenClaim.holds_of_wide 13 Try.f13 rfl rfl rfl rfl rfl rfl rfl ⟨rfl, rfl, rfl, rfl, rfl⟩ rfl rfl rfl rfl rfl (by kernel_rfl) Try.func13 (by kernel_rfl)
    (of_decide_eq_true (by kernel_rfl)) (by unfold Func.isWrapper; rw [if_neg (of_decide_eq_false (by kernel_rfl))]; exact ⟨rfl, rfl⟩)
    (fun os started H enc _ => locksReads_lifted os started H enc)

#print axioms locksReads_holds

end Go.Proofs.Ytdmpdlpfanfjoaa
