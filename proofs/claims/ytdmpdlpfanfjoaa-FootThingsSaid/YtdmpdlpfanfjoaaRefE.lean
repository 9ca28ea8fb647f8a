/- breviaryref09: column. -/
import Derived.Test.YtdmpdlpfanfjoaaRefD
import Derived.Test.YtdmpdlpfanfjoaaFootZ
namespace Go.Proofs.Ytdmpdlpfanfjoaa
open Go.RowKit

theorem col_opens {f : Int → Bool} : ∀ (p : List Int) (st : List (Int × Int) × Option Int) (s : Int), (p.foldl (colStep f) st).2 = some s → st.2 = some s ∨ s ∈ p
  | [], st, s, h => .inl h
  | a :: p, st, s, h => by
    rw [List.foldl_cons] at h
    rcases col_opens p _ s h with h1 | h1
    · unfold colStep at h1
      split at h1
      · injection h1 with h1; subst h1; exact .inr (by simp)
      · cases h1
      · exact .inl h1
    · exact .inr (by simp [h1])
theorem col_len {f : Int → Bool} : ∀ (p : List Int) (st : List (Int × Int) × Option Int), (outOf (p.foldl (colStep f) st)).length ≤ (outOf st).length + p.length
  | [], st => by simp
  | a :: p, st => by
    have h := col_len (f := f) p (colStep f st a)
    have h2 : (outOf (colStep f st a)).length ≤ (outOf st).length + 1 := by
      obtain ⟨C, o⟩ := st
      unfold colStep outOf
      cases f a <;> cases o <;> simp
    rw [List.foldl_cons, List.length_cons]
    omega
theorem beg_min {l : List Cl} (hl : Good l) (col : Int) : ∀ x ∈ begS l col, -9223372036854775808 ≤ x := by
  intro x hx
  rcases (begS_mem col l [] x).1 hx with h | ⟨c, hc, _, rfl | ⟨h, rfl⟩⟩
  · simp at h
  · exact (hl.fits c hc).2.1.1
  · have := (hl.fits c hc).2.2.1.1; omega
theorem set_hi (L : List Cl) (c : Cl) (h : Int) : (((L ++ [c]).map Cl.cells).flatten.set (L.length * 5 + 4) (.int .i64 h)) = ((L ++ [(⟨c.wr, c.col, c.key, c.lo, h⟩ : Cl)]).map Cl.cells).flatten := by
  have hlen : (L.map Cl.cells).flatten.length = L.length * 5 := by rw [flat_len (cl_len L)]; simp
  simp only [List.map_append, List.flatten_append]
  rw [List.set_append_right _ _ (by omega), hlen]
  simp [Cl.cells]

def ColR (w2 : World) (l : List Cl) (col does : Int) (k : Nat) (v7 v9 : Value) (wr : World) : Prop :=
  v9 = .bool (colSt (fun n => lev l (col, [], n) == does) ((begS l col).take k)).2.isSome ∧
  wr.ownsRow w2.heap.size 28 5 v7 (outOf (colSt (fun n => lev l (col, [], n) == does) ((begS l col).take k))).length ((((outOf (colSt (fun n => lev l (col, [], n) == does) ((begS l col).take k))).map (spCl col (does == 2))).map Cl.cells).flatten) ∧ Below w2.heap.size w2 wr

set_option maxRecDepth 100000 in
set_option maxHeartbeats 2000000 in
theorem column_ok (w : World) (F : Nat → Prop) (v : Value) (l : List Cl) (col does : Int) (h : ClRd w F v l) (hg : Good l) (hl : l.length ≤ 10000) (hc : 0 ≤ col) :
    Calls Try.prog 56 #[v, .int .i64 col, .int .i64 does] w (FreshC ((colS l col does).map (spCl col (does == 2))) w) := by
  obtain ⟨i2, hi2, hy0, hy1, hy2⟩ := info_parts Try.info28
  obtain ⟨A, c, rfl, hnc, hcm⟩ := h.slice
  have H := Lib.hid h
  have HHI2 := Lib.hid hi2
  clear h hi2
  go_enter Try.func56, Try.ntmps56
  go_wp2_with fail
  refine (begins_ok w F _ l col H.out hg.fits (by omega)).mono ?_
  rintro e w2 ⟨v8, rfl, hr8, hb8⟩
  have hln : (begS l col).length ≤ 20000 := by have := begS_len col l []; unfold begS; simp at this; omega
  obtain ⟨A8, c8, rfl, hnc8, hcm8, hA8⟩ := hr8
  have H8 := Lib.hid (And.intro hA8 hb8)
  clear hA8 hb8
  go_wp2_with fail
  go_loopw [7, 9, 10] (fun v7 v9 i wr => ∃ k : Nat, k ≤ (begS l col).length ∧ i = .int .i64 (k : Int) ∧ ColR w2 l col does k v7 v9 wr) (fun _ _ i _ => (begS l col).length - (intOf i).toNat)
  case atStart => exact ⟨0, Nat.zero_le _, rfl, rfl, World.ownsRow_nil _ _ _ _, Below.refl _ _⟩
  case round =>
    obtain ⟨k, hk, rfl, rfl, hown, hbl⟩ := hrel
    by_cases hlt : k < (begS l col).length
    · obtain ⟨x, hx⟩ : ∃ x, (begS l col)[k]? = some x := ⟨_, List.getElem?_eq_getElem hlt⟩
      obtain ⟨b, o, rfl, hcell⟩ : ∃ b o, A8 = some ⟨b, o, none⟩ ∧ w2.cell? ⟨b, o + k, none⟩ = some (.int .i64 x) := by
        rcases H8.out.1 with ⟨_, h0, _⟩ | ⟨b, o, e, hh⟩
        · rw [h0] at hlt; simp at hlt
        · exact ⟨b, o, e, hh k x hx⟩
      have hb : b < w2.heap.size := World.block_lt_of_cell? w2 _ hcell
      have c0 := (hbl.cell (p := ⟨b, o + k, none⟩) hb).trans hcell
      have hb0 : Below w.heap.size w wr := H8.out.2.trans (hbl.mono H8.out.2.size)
      have hxm := List.mem_of_getElem? hx
      have hxmax := beg_max hg col x hxm
      have hxmin := beg_min hg col x hxm
      have hst : colSt (fun n => lev l (col, [], n) == does) ((begS l col).take (k + 1)) = colStep (fun n => lev l (col, [], n) == does) (colSt (fun n => lev l (col, [], n) == does) ((begS l col).take k)) x := by
        rw [take_snoc hx, colSt_snoc]
      have hop : ∀ s, (colSt (fun n => lev l (col, [], n) == does) ((begS l col).take k)).2 = some s → -9223372036854775808 ≤ s ∧ s < x := by
        intro s hs
        rcases col_opens _ _ _ hs with h1 | h1
        · cases h1
        · refine ⟨beg_min hg col s (List.mem_of_mem_take h1), ?_⟩
          have hr : Rising (begS l col) := begS_rising col l [] List.Pairwise.nil
          unfold Rising at hr
          obtain ⟨j, hj, rfl⟩ := List.mem_iff_getElem.1 h1
          have hjk : j < k := by simp at hj; omega
          have := List.pairwise_iff_getElem.1 hr j k (by omega) hlt hjk
          rw [List.getElem_take]
          have e := List.getElem?_eq_some_iff.1 hx
          rw [← e.2]
          exact this
      have hol : (outOf (colSt (fun n => lev l (col, [], n) == does) ((begS l col).take k))).length ≤ 20000 := by
        have := col_len (f := fun n => lev l (col, [], n) == does) ((begS l col).take k) ([], none)
        unfold colSt
        simp [outOf] at this ⊢
        omega
      obtain ⟨st, hstd⟩ : ∃ st, colSt (fun n => lev l (col, [], n) == does) ((begS l col).take k) = st := ⟨_, rfl⟩
      rw [hstd] at hown hst hop hol ⊢
      obtain ⟨C, os⟩ := st
      obtain ⟨A7, c7, rfl⟩ := ownsRow_slice hown
      have hs7 := hbl.size
      have HX := Lib.hid (And.intro hown (And.intro hbl (And.intro hst hb0)))
      clear hown hbl hst hb0 hx hstd hcell hxm
      have hcon := refValue_ok wr F _ l col x (ClRd.below H.out HX.out.2.2.2) hg (by omega) hc
      cases hfa : lev l (col, [], x) == does with
      | true =>
        obtain ⟨r, hr⟩ : ∃ r, lev l (col, [], x) = r := ⟨_, rfl⟩
        rw [hr] at hfa hcon
        have HF := Lib.hid (And.intro hr hfa)
        cases os with
        | none =>
          clear hr hop
          obtain ⟨nC, hnC⟩ : ∃ nC, (outOf (C, none)).length = nC := ⟨_, rfl⟩
          have hown' := HX.out.1.alloc (.cells #[.bool (does == 2), .int .i64 col, .string ⟨#[]⟩, .int .i64 x, .int .i64 9223372036854775807] 28)
          have hnews := World.news_of_block (heap_alloc_new wr (.cells #[.bool (does == 2), .int .i64 col, .string ⟨#[]⟩, .int .i64 x, .int .i64 9223372036854775807] 28))
          rw [hnC] at hown' hol ⊢
          have HO := Lib.hid (And.intro hown' (And.intro hnews hnC))
          clear hown' hnews hnC
          go_wp2_with fail
          refine hcon.mono ?_
          rintro e w' ⟨rfl, rfl⟩
          clear hcon
          go_wp2_with (at_builtin; go_loud (refine wpList_append_lies _ rfl _ _ 22 rfl w2.heap.size 28 i2 _ 5 48 Try.underlying22 HHI2.out hy0 hy1 hy2 rfl (by decide) (.slice A7 nC c7) nC _ rfl HO.out.1 ⟨wr.heap.size, 0, none⟩ 1 1 [.bool (does == 2), .int .i64 col, .string ⟨#[]⟩, .int .i64 x, .int .i64 9223372036854775807] rfl rfl HO.out.2.1 (by simp [Value.oneCell']) (by decide) (by unfold maxLen; omega) (by omega) (by simp; omega) _ rfl ?_); intro g3 c3 w3 hO3 hg3 hat3 hlt3)
          go_roundw
          case rel =>
            refine ⟨k + 1, by omega, by go_num, ?_, ?_, ?_⟩
            · rw [HX.out.2.2.1]
              simp [colStep, HF.out.1, HF.out.2]
            · rw [HX.out.2.2.1]
              have e : colStep (fun n => lev l (col, [], n) == does) (C, none) x = (C, some x) := by simp [colStep, HF.out.1, HF.out.2]
              rw [e]
              have h1 := HO.out.2.2
              simp [outOf] at h1 hO3 ⊢
              rw [h1]
              simpa [spCl, Cl.cells] using hO3
            · exact (HX.out.2.1.alloc hs7 _).grown hg3 (by simp; omega) (fun j hj => (HX.out.1.lt j (by rw [HO.out.2.2]; exact hj)).1)
          case measure => simp [intOf]; omega
        | some s =>
          clear hr hop
          go_wp2_with fail
          refine hcon.mono ?_
          rintro e w' ⟨rfl, rfl⟩
          clear hcon
          go_wp2_with fail
          go_roundw
          case rel =>
            have e : colStep (fun n => lev l (col, [], n) == does) (C, some s) x = (C, some s) := by simp [colStep, HF.out.1, HF.out.2]
            exact ⟨k + 1, by omega, by go_num, by rw [HX.out.2.2.1, e]; rfl, by rw [HX.out.2.2.1, e]; exact HX.out.1, HX.out.2.1⟩
          case measure => simp [intOf]; omega
      | false =>
        obtain ⟨r, hr⟩ : ∃ r, lev l (col, [], x) = r := ⟨_, rfl⟩
        rw [hr] at hfa hcon
        have HF := Lib.hid (And.intro hr hfa)
        cases os with
        | none =>
          clear hr hop
          go_wp2_with fail
          refine hcon.mono ?_
          rintro e w' ⟨rfl, rfl⟩
          clear hcon
          go_wp2_with fail
          go_roundw
          case rel =>
            have e : colStep (fun n => lev l (col, [], n) == does) (C, none) x = (C, none) := by simp [colStep, HF.out.1, HF.out.2]
            exact ⟨k + 1, by omega, by go_num, by rw [HX.out.2.2.1, e]; rfl, by rw [HX.out.2.2.1, e]; exact HX.out.1, HX.out.2.1⟩
          case measure => simp [intOf]; omega
        | some s =>
          obtain ⟨hs1, hs2⟩ := hop s rfl
          clear hr hop
          obtain ⟨m, hm⟩ : ∃ m, C.length = m := ⟨_, rfl⟩
          have hoo : (outOf (C, some s)).length = m + 1 := by simp [outOf, hm]
          have hown2 := HX.out.1
          rw [hoo] at hown2
          rw [hoo] at hol ⊢
          have hL : ((outOf (C, some s)).map (spCl col (does == 2))) = C.map (spCl col (does == 2)) ++ [spCl col (does == 2) (s, 9223372036854775807)] := by simp [outOf]
          rw [hL] at hown2
          have hn5 : (m + 1) * 5 = m * 5 + 5 := by omega
          obtain ⟨g, cap, hv, hg0, hgl⟩ := hown2.form (by omega)
          injection hv with hv1 _ hv3
          subst hv1 hv3
          have hcl : ((C.map (spCl col (does == 2)) ++ [spCl col (does == 2) (s, 9223372036854775807)]).map Cl.cells).flatten[m * 5 + 4]? = some (.int .i64 9223372036854775807) :=
            flat_at (cl_len _) m (Cl.cells (spCl col (does == 2) (s, 9223372036854775807))) (by simp [hm]) 4 _ rfl
          have d4 := (hown2.cellAt (m * 5 + 4) (by omega)).trans hcl
          have f4 := hown2.frozenAt (m * 5 + 4)
          have HO := Lib.hid (And.intro hown2 hm)
          clear hown2 hoo hL hcl hm hn5
          go_wp2_with fail
          refine hcon.mono ?_
          rintro e w' ⟨rfl, rfl⟩
          clear hcon
          go_wp2_with fail
          go_roundw
          case rel =>
            have e : colStep (fun n => lev l (col, [], n) == does) (C, some s) x = (C ++ [(s, x - 1)], none) := by simp [colStep, HF.out.1, HF.out.2]
            refine ⟨k + 1, by omega, by go_num, by rw [HX.out.2.2.1, e]; rfl, ?_, HX.out.2.1.setCell hg0 _⟩
            rw [HX.out.2.2.1, e]
            have h1 := (HO.out.1.stored (m * 5 + 4) (.int .i64 (x - 1))).1
            have h2 := set_hi (C.map (spCl col (does == 2))) (spCl col (does == 2) (s, 9223372036854775807)) (x - 1)
            rw [List.length_map, HO.out.2] at h2
            rw [h2] at h1
            simpa [outOf, spCl, HO.out.2] using h1
          case measure => simp [intOf]; omega
    · have hkl : k = (begS l col).length := by omega
      subst hkl
      rw [List.take_length] at hown
      have HX := Lib.hid (And.intro hown hbl)
      clear hown hbl
      go_wp2_with fail
      go_ret
      obtain ⟨A7, c7, rfl⟩ := ownsRow_slice HX.out.1
      refine ⟨A7, c7, by simp [colS], ?_, H8.out.2.trans (HX.out.2.mono H8.out.2.size)⟩
      have h1 := own_base HX.out.1 (base' := w.heap.size) (fun g hg => by have := (HX.out.1.lt g hg).1; have := H8.out.2.size; omega)
      simpa [colS] using h1

end Go.Proofs.Ytdmpdlpfanfjoaa
