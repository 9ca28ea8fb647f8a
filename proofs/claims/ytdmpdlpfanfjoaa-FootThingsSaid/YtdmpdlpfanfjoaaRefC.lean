/- breviaryref09: Begins. -/
import Derived.Test.YtdmpdlpfanfjoaaRefB
namespace Go.Proofs.Ytdmpdlpfanfjoaa
open Go.RowKit

def begStep (col : Int) (acc : List Int) (c : Cl) : List Int := if c.col = col then (if c.hi < 9223372036854775807 then putS (putS acc c.lo) (c.hi + 1) else putS acc c.lo) else acc
/-- All numbers of a column at which what claims do may turn. -/
def begS (l : List Cl) (col : Int) : List Int := l.foldl (begStep col) []
theorem begS_snoc (l : List Cl) (c : Cl) (col : Int) : begS (l ++ [c]) col = begStep col (begS l col) c := by simp [begS]
theorem begS_len (col : Int) : ∀ (l : List Cl) (acc : List Int), (l.foldl (begStep col) acc).length ≤ acc.length + 2 * l.length
  | [], acc => by simp
  | c :: l, acc => by
    have h := begS_len col l (begStep col acc c)
    have h2 : (begStep col acc c).length ≤ acc.length + 2 := by
      unfold begStep
      split
      · split
        · have := putS_len (putS acc c.lo) (c.hi + 1); have := putS_len acc c.lo; omega
        · have := putS_len acc c.lo; omega
      · omega
    rw [List.foldl_cons, List.length_cons]
    omega
theorem begS_rising (col : Int) : ∀ (l : List Cl) (acc : List Int), Rising acc → Rising (l.foldl (begStep col) acc)
  | [], _, h => h
  | c :: l, acc, h => by
    refine begS_rising col l _ ?_
    unfold begStep
    split
    · split
      · exact putS_rising (putS_rising h)
      · exact putS_rising h
    · exact h
theorem begS_mem (col : Int) : ∀ (l : List Cl) (acc : List Int) (x : Int), x ∈ l.foldl (begStep col) acc ↔ x ∈ acc ∨ ∃ c ∈ l, c.col = col ∧ (x = c.lo ∨ (c.hi < 9223372036854775807 ∧ x = c.hi + 1))
  | [], acc, x => by simp
  | c :: l, acc, x => by
    rw [List.foldl_cons, begS_mem col l]
    have hb : x ∈ begStep col acc c ↔ x ∈ acc ∨ (c.col = col ∧ (x = c.lo ∨ (c.hi < 9223372036854775807 ∧ x = c.hi + 1))) := by
      unfold begStep
      split
      · rename_i h1
        split
        · rename_i h2
          rw [putS_mem, putS_mem]
          simp [h1, h2, or_assoc]
        · rename_i h2
          rw [putS_mem]
          simp [h1, h2]
      · rename_i h1
        simp [h1]
    rw [hb]
    constructor
    · rintro ((h | h) | ⟨d, hd, h⟩)
      · exact .inl h
      · exact .inr ⟨c, by simp, h⟩
      · exact .inr ⟨d, by simp [hd], h⟩
    · rintro (h | ⟨d, hd, h⟩)
      · exact .inl (.inl h)
      · rcases List.mem_cons.1 hd with rfl | hd
        · exact .inl (.inr h)
        · exact .inr ⟨d, hd, h⟩

def BegP (l : List Cl) (col : Int) (w : World) (e : Ending) (w' : World) : Prop := ∃ v', e = .returned v' ∧ IntRd w' v' (begS l col) ∧ Below w.heap.size w w'

set_option maxRecDepth 100000 in
set_option maxHeartbeats 1000000 in
theorem begins_ok (w : World) (F : Nat → Prop) (v : Value) (l : List Cl) (col : Int) (h : ClRd w F v l) (hfit : ∀ c ∈ l, c.fits) (hl : l.length ≤ 100000) :
    Calls Try.prog 59 #[v, .int .i64 col] w (BegP l col w) := by
  obtain ⟨A, c, rfl, hnc, hcm⟩ := h.slice
  have H := Lib.hid h
  clear h
  go_enter Try.func59, Try.ntmps59
  go_wp2_with fail
  go_loopw [5, 6] (fun v5 i wr => ∃ k : Nat, k ≤ l.length ∧ i = .int .i64 (k : Int) ∧ IntRd wr v5 (begS (l.take k) col) ∧ Below w.heap.size w wr) (fun _ i _ => l.length - (intOf i).toNat)
  case atStart => exact ⟨0, Nat.zero_le _, rfl, IntRd.nil _, Below.refl _ _⟩
  case round =>
    obtain ⟨k, hk, rfl, hrd, hbl⟩ := hrel
    by_cases hlt : k < l.length
    · obtain ⟨x, hx⟩ : ∃ x, l[k]? = some x := ⟨_, List.getElem?_eq_getElem hlt⟩
      obtain ⟨b, o, rfl, hFb, c0, c1, c2, c3, c4⟩ := H.out.at_ hx
      have hb : b < w.heap.size := World.block_lt_of_cell? w _ c0
      have c1' := (hbl.cell (p := ⟨b, o + k * 5 + 1, none⟩) hb).trans c1
      have c3' := (hbl.cell (p := ⟨b, o + k * 5 + 3, none⟩) hb).trans c3
      have c4' := (hbl.cell (p := ⟨b, o + k * 5 + 4, none⟩) hb).trans c4
      have hxf := hfit x (List.mem_of_getElem? hx)
      have hhi := hxf.2.2.1.2
      have hhl := hxf.2.2.1.1
      have hsn := begS_snoc (l.take k) x col
      rw [← take_snoc hx] at hsn
      have hbn : (begS (l.take k) col).length ≤ 200000 := by have := begS_len col (l.take k) []; unfold begS; simp at this; omega
      obtain ⟨bg, hbg⟩ : ∃ bg, begS (l.take k) col = bg := ⟨_, rfl⟩
      rw [hbg] at hrd hsn hbn
      have hbr : b < wr.heap.size := Nat.lt_of_lt_of_le hb hbl.size
      have HX := Lib.hid (And.intro hsn (And.intro hrd hbl))
      clear hx hsn hbg hrd hbl c0 c1 c2 c3 c4 hxf
      by_cases g1 : x.col = col
      · rw [g1] at c1'
        have HG := Lib.hid g1
        clear g1
        go_wp2_with fail
        refine (put_ok wr _ bg x.lo HX.out.2.1 (by omega)).mono ?_
        rintro e w2 ⟨v2, rfl, hr2, hb2⟩
        have d4 := (hb2.cell (p := ⟨b, o + k * 5 + 4, none⟩) hbr).trans c4'
        have hpl := putS_len bg x.lo
        have H2 := Lib.hid (And.intro hr2 hb2)
        clear hr2 hb2
        by_cases g2 : x.hi < 9223372036854775807
        · go_wp2_with fail
          refine (put_ok w2 _ _ (x.hi + 1) H2.out.1 (by omega)).mono ?_
          rintro e w3 ⟨v3, rfl, hr3, hb3⟩
          have H3 := Lib.hid (And.intro hr3 hb3)
          clear hr3 hb3
          go_wp2_with fail
          go_roundw
          case rel =>
            refine ⟨k + 1, by omega, by go_num, ?_, ?_⟩
            · rw [HX.out.1]
              unfold begStep
              rw [if_pos HG.out, if_pos g2]
              exact H3.out.1
            · have h1 := HX.out.2.2
              have h2 := h1.trans (H2.out.2.mono h1.size)
              exact h2.trans (H3.out.2.mono h2.size)
          case measure => simp [intOf]; omega
        · go_wp2_with fail
          go_roundw
          case rel =>
            refine ⟨k + 1, by omega, by go_num, ?_, ?_⟩
            · rw [HX.out.1]
              unfold begStep
              rw [if_pos HG.out, if_neg (by omega)]
              exact H2.out.1
            · have h1 := HX.out.2.2
              exact h1.trans (H2.out.2.mono h1.size)
          case measure => simp [intOf]; omega
      · have g3 : (x.col == col) = false := by simpa using g1
        have g4 : (x.col != col) = true := by simpa using g1
        have HG := Lib.hid g1
        clear g1
        go_wp2_with fail
        go_roundw
        case rel =>
          refine ⟨k + 1, by omega, by go_num, ?_, HX.out.2.2⟩
          rw [HX.out.1]
          unfold begStep
          rw [if_neg HG.out]
          exact HX.out.2.1
        case measure => simp [intOf]; omega
    · have hkl : k = l.length := by omega
      subst hkl
      rw [List.take_length] at hrd
      have HX := Lib.hid (And.intro hrd hbl)
      clear hrd hbl
      go_wp2_with fail
      go_ret
      exact ⟨_, rfl, HX.out.1, HX.out.2⟩

end Go.Proofs.Ytdmpdlpfanfjoaa
