/- Locks that numbers read, and one writes: the calls, by what is in line. -/
import Derived.Test.YtdmpdlpfanfjoaaLocksReadsP
namespace Go.Proofs.Ytdmpdlpfanfjoaa
open Go.RowKit

/-- Some Locks in which all but 50 have R, and 50 has W; numbers below B came. -/
def ReadS (wz : World) (b : Nat) (R W : List Cl) (BR : Nat) (AR : Option Addr) (cR BW : Nat) (AW : Option Addr) (cW : Nat) (B : Int) (N : Nat) (l : List Ent) (w : World) : Prop :=
  ∃ F C n sm la, One wz w F C b sm la l n ∧ FtC w C BR AR R cR ∧ FtC w C BW AW W cW ∧ RWl R W l ∧ n ≤ N ∧ (sm = true → la < B)
section
variable {wz w w' : World} {b BR cR BW cW N : Nat} {R W : List Cl} {AR AW : Option Addr} {B : Int} {l : List Ent}
theorem ReadS.bel (h : ReadS wz b R W BR AR cR BW AW cW B N l w) : Below wz.heap.size wz w := by
  obtain ⟨F, C, n, sm, la, h1, _⟩ := h
  exact h1.2.2
theorem ReadS.rise (h : ReadS wz b R W BR AR cR BW AW cW B N l w) : Rise l := by
  obtain ⟨F, C, n, sm, la, h1, _⟩ := h
  exact h1.1.line.1
theorem ReadS.rw (h : ReadS wz b R W BR AR cR BW AW cW B N l w) : RWl R W l := by
  obtain ⟨F, C, n, sm, la, _, _, _, h1, _⟩ := h
  exact h1
theorem ReadS.cellR (h : ReadS wz b R W BR AR cR BW AW cW B N l w) : w.cell? ⟨BR, 0, none⟩ = some (.slice AR R.length cR) := by
  obtain ⟨F, C, n, sm, la, _, h1, _⟩ := h
  exact h1.cell
theorem ReadS.cellW (h : ReadS wz b R W BR AR cR BW AW cW B N l w) : w.cell? ⟨BW, 0, none⟩ = some (.slice AW W.length cW) := by
  obtain ⟨F, C, n, sm, la, _, _, h1, _⟩ := h
  exact h1.cell
theorem ReadS.below (h : ReadS wz b R W BR AR cR BW AW cW B N l w) (hb : Below w.heap.size w w') : ReadS wz b R W BR AR cR BW AW cW B N l w' := by
  obtain ⟨F, C, n, sm, la, h1, h2, h3, h4⟩ := h
  exact ⟨F, C, n, sm, la, h1.below hb, h2.below hb, h3.below hb, h4⟩
theorem ReadS.mono (h : ReadS wz b R W BR AR cR BW AW cW B N l w) {N' : Nat} (hN : N ≤ N') : ReadS wz b R W BR AR cR BW AW cW B N' l w := by
  obtain ⟨F, C, n, sm, la, h1, h2, h3, h4, h5, h6⟩ := h
  exact ⟨F, C, n, sm, la, h1, h2, h3, h4, Nat.le_trans h5 hN, h6⟩
theorem ReadS.monoB (h : ReadS wz b R W BR AR cR BW AW cW B N l w) {B' : Int} (hB : B ≤ B') : ReadS wz b R W BR AR cR BW AW cW B' N l w := by
  obtain ⟨F, C, n, sm, la, h1, h2, h3, h4, h5, h6⟩ := h
  exact ⟨F, C, n, sm, la, h1, h2, h3, h4, h5, fun hs => by have := h6 hs; omega⟩
theorem ReadS.enqR (h : ReadS wz b R W BR AR cR BW AW cW B N l w) {id : Int} (hid : B ≤ id) (hi : I64 id) (h50 : id ≠ 50) (hl : l.length ≤ 1000) (hN : N ≤ 1000000) (hR : R.length ≤ 64) :
    Calls Try.prog 36 #[.pointer (some ⟨b, 0, none⟩), .int .i64 id, .agg #[.slice AR R.length cR]] w fun e w' => e = .returned (.int .i64 0) ∧ ReadS wz b R W BR AR cR BW AW cW (id + 1) (N + l.length + 1) (l ++ [(id, R)]) w' := by
  obtain ⟨F, C, n, sm, la, h1, h2, h3, h4, h5, h6⟩ := h
  refine (enq_ok w F C b n sm la l id (.slice AR R.length cR) R h1.1 (by omega) (by omega) hi h2.2.2 (by omega)).mono ?_
  intro e w' hq
  obtain ⟨rfl, hoF, F', hx, _⟩ := hq.next h1 (fun hs => by have := h6 hs; omega)
  exact ⟨rfl, F', C, _, true, id, hx, h2.only hoF h1.cF, h3.only hoF h1.cF, h4.snocR h50, by omega, fun _ => by omega⟩
theorem ReadS.enqW (h : ReadS wz b R W BR AR cR BW AW cW B N l w) (hid : B ≤ 50) (hl : l.length ≤ 1000) (hN : N ≤ 1000000) (hW : W.length ≤ 64) :
    Calls Try.prog 36 #[.pointer (some ⟨b, 0, none⟩), .int .i64 50, .agg #[.slice AW W.length cW]] w fun e w' => e = .returned (.int .i64 0) ∧ ReadS wz b R W BR AR cR BW AW cW 51 (N + l.length + 1) (l ++ [(50, W)]) w' := by
  obtain ⟨F, C, n, sm, la, h1, h2, h3, h4, h5, h6⟩ := h
  refine (enq_ok w F C b n sm la l 50 (.slice AW W.length cW) W h1.1 (by omega) (by omega) (by unfold I64; omega) h3.2.2 (by omega)).mono ?_
  intro e w' hq
  obtain ⟨rfl, hoF, F', hx, _⟩ := hq.next h1 (fun hs => by have := h6 hs; omega)
  exact ⟨rfl, F', C, _, true, 50, hx, h2.only hoF h1.cF, h3.only hoF h1.cF, h4.snocW, by omega, fun _ => by omega⟩
theorem ReadS.ready (h : ReadS wz b R W BR AR cR BW AW cW B N l w) (hl : l.length ≤ 1000) : Calls Try.prog 37 #[.pointer (some ⟨b, 0, none⟩)] w fun e w' => ∃ A c, e = .returned (.slice A (Go.Proofs.Ytdmpdlpfanfjoaa.ready l).length c) ∧ Rd w' (fun _ => True) (.slice A (Go.Proofs.Ytdmpdlpfanfjoaa.ready l).length c) ((Go.Proofs.Ytdmpdlpfanfjoaa.ready l).map (Value.int .i64)) ∧ Below w.heap.size w w' := by
  obtain ⟨F, C, n, sm, la, h1, _⟩ := h
  refine (lkReady_ok w F C b n sm la l h1.1 (by omega)).mono ?_
  rintro e w' ⟨v, rfl, hf⟩
  have hb := hf.below
  have hr := hf.rd
  obtain ⟨A, c, rfl, _⟩ := hf
  exact ⟨A, c, rfl, hr, hb⟩
theorem ReadS.readyN (h : ReadS wz b R W BR AR cR BW AW cW B N l w) (hl : l.length ≤ 1000) {m : Nat} (hm : (Go.Proofs.Ytdmpdlpfanfjoaa.ready l).length = m) : Calls Try.prog 37 #[.pointer (some ⟨b, 0, none⟩)] w fun e w' => ∃ A c, e = .returned (.slice A m c) ∧ Below w.heap.size w w' := by
  refine (h.ready hl).mono ?_
  rintro e w' ⟨A, c, rfl, _, hb⟩
  exact ⟨A, c, by rw [hm], hb⟩
theorem ReadS.waits (h : ReadS wz b R W BR AR cR BW AW cW B N l w) {id : Int} (hi : I64 id) (hm : id ∈ nums l) (hl : l.length ≤ 1000) : Calls Try.prog 42 #[.pointer (some ⟨b, 0, none⟩), .int .i64 id] w fun e w' => ∃ A c, e = .returned (.tuple #[.slice A (Go.Proofs.Ytdmpdlpfanfjoaa.waits l id).length c, .int .i64 0]) ∧ Rd w' (fun _ => True) (.slice A (Go.Proofs.Ytdmpdlpfanfjoaa.waits l id).length c) ((Go.Proofs.Ytdmpdlpfanfjoaa.waits l id).map (Value.int .i64)) ∧ Below w.heap.size w w' := by
  obtain ⟨F, C, n, sm, la, h1, _⟩ := h
  refine (lkWaits_ok w F C b n sm la l id h1.1 (by omega) hi).mono ?_
  rintro e w' ⟨hb, ⟨h5, _⟩ | ⟨_, v, rfl, hf⟩⟩
  · exact absurd hm h5
  have hr := hf.rd
  obtain ⟨A, c, rfl, _⟩ := hf
  exact ⟨A, c, rfl, hr, hb⟩
theorem ReadS.relY (h : ReadS wz b R W BR AR cR BW AW cW B N l w) {id : Int} (hi : I64 id) (hm : id ∈ Go.Proofs.Ytdmpdlpfanfjoaa.ready l) (hl : l.length ≤ 1000) (hN : N ≤ 1000000) : Calls Try.prog 39 #[.pointer (some ⟨b, 0, none⟩), .int .i64 id] w fun e w' => e = .returned (.int .i64 0) ∧ ReadS wz b R W BR AR cR BW AW cW B (N + l.length) (outL l id) w' := by
  obtain ⟨F, C, n, sm, la, h1, h2, h3, h4, h5, h6⟩ := h
  refine (rel_ok w F C b n sm la l id h1.1 (by omega) (by omega) hi).mono ?_
  intro e w' hq
  obtain ⟨rfl, hoF, hx⟩ := hq.yes h1 hm
  exact ⟨rfl, F, C, _, sm, la, hx, h2.only hoF h1.cF, h3.only hoF h1.cF, h4.out id, by omega, h6⟩
theorem ReadS.relW (h : ReadS wz b R W BR AR cR BW AW cW B N l w) {id : Int} (hi : I64 id) (hm : id ∈ nums l) (hr : rdyB l id = false) (hl : l.length ≤ 1000) (hN : N ≤ 1000000) : Calls Try.prog 39 #[.pointer (some ⟨b, 0, none⟩), .int .i64 id] w fun e w' => e = .returned (.int .i64 18) ∧ ReadS wz b R W BR AR cR BW AW cW B N l w' := by
  obtain ⟨F, C, n, sm, la, h1, h2, h3, h4, h5, h6⟩ := h
  refine (rel_ok w F C b n sm la l id h1.1 (by omega) (by omega) hi).mono ?_
  intro e w' hq
  obtain ⟨rfl, hoF, hx⟩ := hq.waits h1 hm hr
  exact ⟨rfl, F, C, _, sm, la, hx, h2.only hoF h1.cF, h3.only hoF h1.cF, h4, by omega, h6⟩
end

/-- Lists of claims that are built side by side. -/
def BuildR (w0 : World) (l : List Cl) (k : Nat) (v5 v6 : Value) (w : World) : Prop :=
  ∃ A5 c5 A6 c6, v5 = .slice A5 k c5 ∧ v6 = .slice A6 k c6 ∧ w.ownsRow w0.heap.size 28 5 v5 k (((l.take k).map (setW false)).map Cl.cells).flatten ∧ w.ownsRow w0.heap.size 28 5 v6 k (((l.take k).map (setW true)).map Cl.cells).flatten ∧
    (∀ g, v5.ownBlock = some g → v6.ownBlock ≠ some g) ∧ Below w0.heap.size w0 w
theorem take_setW {l : List Cl} {k : Nat} {x : Cl} (hx : l[k]? = some x) (b : Bool) : (((l.take (k + 1)).map (setW b)).map Cl.cells).flatten = (((l.take k).map (setW b)).map Cl.cells).flatten ++ [.bool b, .int .i64 x.col, .string ⟨x.key.toArray⟩, .int .i64 x.lo, .int .i64 x.hi] := by
  rw [List.take_add_one, hx]
  simp [setW, Cl.cells]

end Go.Proofs.Ytdmpdlpfanfjoaa
