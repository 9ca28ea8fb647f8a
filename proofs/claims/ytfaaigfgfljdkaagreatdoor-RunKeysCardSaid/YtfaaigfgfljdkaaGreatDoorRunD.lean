/- The machine in general: keys of numbers, claims, row, has, set. -/
import Derived.Test.YtfaaigfgfljdkaaGreatDoorRunC
import Derived.Test.YtfaaigfgfljdkaaGreatDoorShelfI
import Derived.Test.YtfaaigfgfljdkaaGreatDoorTreeH
import Derived.Shelf.Strconv.Itoa3
namespace Go.Proofs.YtfaaigfgfljdkaaGreatDoor
set_option maxRecDepth 100000
open Go.RowKit

/-- The table of powers of ten is laid. -/
def Tab10 (w : World) : Prop := Lib.TabIs Tryz.prog w "internal/strconv.uint64pow10" .u64 Lib.pow10Tab
theorem Tryz.g10 : Tryz.prog.globalNamed "internal/strconv.uint64pow10" = some 3 := by kernel_rfl
theorem Tab10.lt {w : World} (h : Tab10 w) : 3 < w.heap.size := by
  unfold Tab10 Lib.TabIs World.var? at h
  rw [Tryz.g10] at h
  simp only [Option.bind_some] at h
  rcases Nat.lt_or_ge 3 w.heap.size with h' | h'
  · exact h'
  · rw [Array.getElem?_eq_none h'] at h; cases h
theorem Tab10.only {S : Nat → Prop} {w w' : World} (h : Tab10 w) (ho : Only S w w') (hS : ¬ S 3) : Tab10 w' := by
  have hlt := h.lt
  unfold Tab10 Lib.TabIs World.var? at h ⊢
  rw [Tryz.g10] at h ⊢
  simp only [Option.bind_some] at h ⊢
  rw [ho.block _ hlt hS]
  exact h
theorem Tab10.below {w w' : World} (h : Tab10 w) (hb : Below w.heap.size w w') : Tab10 w' := h.only (Only.of_below hb (fun _ => False)) (fun h => h)
theorem below_grow (w : World) (k : Nat) (os : Array Obj) : Below w.heap.size w (Sort.grow (w.drewN k) os) := by
  have h0 := Below.refl w.heap.size w
  refine ⟨h0.os, h0.tape, h0.output, ?_, fun j hj => ?_⟩
  · show w.heap.size ≤ (w.heap ++ os).size
    simp
  · show (w.heap ++ os)[j]? = w.heap[j]?
    rw [Array.getElem?_append_left hj]
set_option maxRecDepth 100000 in
theorem key_ok (w : World) (n : Int) (hn : I64 n) (ht : Tab10 w) : Calls Tryz.prog 16 #[.int .i64 n] w fun e w' => e = .returned (.string ⟨(Lib.itoa n).toArray⟩) ∧ Below w.heap.size w w' := by
  have H := Lib.hid (Any.strconv_Itoa Tryz.laysM171 n hn.1 hn.2 w ht)
  clear ht
  go_enter Tryz.func16, Tryz.ntmps16
  go_wp2_with fail
  refine H.out.mono ?_
  rintro e w' ⟨rfl, k, os, rfl⟩
  have HB := Lib.hid (below_grow w k os)
  generalize Sort.grow (w.drewN k) os = w2 at HB ⊢
  go_wp2_with fail
  go_ret
  exact ⟨rfl, HB.out⟩

section
variable {R : Type} {c : RC} {K : R → World → Prop}
theorem mclaim_ok {w : World} {s : PS R} (hc : c.Fit) (hK : KOk c.lo K) (h : MI c K w s) (l : List Cl) (v : Value) (hl : ClRd w (fun k => ¬ c.S k) v l) (hlen : l.length ≤ 1000) (hg : Good l) :
    Calls Tryz.prog 244 #[.pointer (some ⟨c.M, 0, none⟩), v] w fun e w' => e = .returned (.int .i64 (claimGo c.ok s.cl l).2) ∧ MI c K w' { s with cl := (claimGo c.ok s.cl l).1 } ∧ Only (fun k => k = c.M) w w' := by
  obtain ⟨f, h1, h2, h3, h4, h5, h6, h7⟩ := h
  refine (claim_ok w c.S c.M (c.ms s f) c.ok s.cl l v h1 hc.own h6 h2 h3 hl hlen hg).mono ?_
  rintro e w' ⟨f', rfl, g1, g2, g3⟩
  have hS : ∀ k, k = c.M → c.S k := fun k hk => by subst hk; exact hc.own
  exact ⟨rfl, ⟨f', g1, g2, h3.only g3 hS, h4.only g3 (fun k hk e => hk (hS k e)), hK _ _ _ _ (fun k hk => by subst hk; exact hc.low) h5 g3, fun k hk => Nat.lt_of_lt_of_le (h6 k hk) g3.size, h7⟩, g3⟩
end
/-- A row's values. -/
structure Rw where
  a : Int
  b : Int
  c : Int
  d : Int
  deriving DecidableEq
def Rw.cells (r : Rw) : List Value := [.int .i64 r.a, .int .i64 r.b, .int .i64 r.c, .int .i64 r.d]
def Rw.val (r : Rw) : Value := .agg #[.int .i64 r.a, .int .i64 r.b, .int .i64 r.c, .int .i64 r.d]
def Rw.zero : Rw := ⟨0, 0, 0, 0⟩
/-- What Get of rows answers. -/
def GotP (r : Option Rw) (w : World) (e : Ending) (w' : World) : Prop :=
  e = .returned (.tuple #[(r.getD .zero).val, .int .i64 (if r.isSome then 0 else 14)]) ∧ Below w.heap.size w w'
/-- Rows that answer Get as get says. -/
def GetOk {R : Type} (b : Value) (K : R → World → Prop) (get : R → List UInt8 → Option Rw) : Prop :=
  ∀ (r : R) (w : World) (k : List UInt8), K r w → keyErr k = 0 → Calls Tryz.prog 84 #[b, .string ⟨k.toArray⟩] w (GotP (get r k) w)
/-- Keys may be made. -/
def KTab {R : Type} (K : R → World → Prop) : Prop := ∀ r w, K r w → Tab10 w
section
variable {R : Type} {c : RC} {K : R → World → Prop} {get : R → List UInt8 → Option Rw}
theorem results_cell_row3 {P : Program} {fn : Func} {p u x : Tmp} {ty : TypeId} (h : fn.results = #[.cell p ty, .tmp u, .tmp x]) (tmps : Array Value) (w : World) (g : Nat) (t : TypeId) (cs : Array Value) (fr : Nat × Nat) (d : TypeDesc)
    (hp : tmps.getD p undef = .pointer (some ⟨g, 0, none⟩)) (hg : w.heap[g]? = some (.cells cs t fr))
    (hu : P.underlying ty = some d) (hd : (match d with | .struct _ | .array _ _ => true | _ => false) = true) (hi : (P.info? ty).map (·.size) = some cs.size) :
    (results fn tmps).run P w = .ok (.tuple #[.agg cs, tmps.getD u undef, tmps.getD x undef]) w := by
  have hp' : tmps[p]?.getD undef = .pointer (some ⟨g, 0, none⟩) := by simpa using hp
  simp only [results, h]
  simp [Result.andThen, hp', asAddr, run_loadVar_row w g t ty cs fr d hg hu hd hi]
theorem blk4z {w : World} {R : Nat} {a b c d : Value} {t : TypeId} (k3 : w.heap[R]? = some (.cells #[a, b, c, d] t (0, 0))) :
    (w.cell? ⟨R, 0, none⟩ = some a ∧ w.cell? ⟨R, 1, none⟩ = some b ∧ w.cell? ⟨R, 2, none⟩ = some c ∧ w.cell? ⟨R, 3, none⟩ = some d) ∧ w.frozen? ⟨R, 0, none⟩ = false ∧ w.frozen? ⟨R, 1, none⟩ = false ∧ w.frozen? ⟨R, 2, none⟩ = false ∧ w.frozen? ⟨R, 3, none⟩ = false := by
  simp [World.cell?, World.frozen?, k3]
/-- What row does: the state then, the row, and how it ended. -/
def rowP (ok : Cl → Bool) (get : R → List UInt8 → Option Rw) (i : Nat) (s : PS R) : PS R × Option Rw × Int :=
  let p := claimGo ok s.cl [clRow (s.reg i)]
  ({ s with cl := p.1 }, if p.2 = 0 then get s.rows (Lib.itoa (s.reg i)) else none, p.2)
def RowP (c : RC) (K : R → World → Prop) (p : PS R × Option Rw × Int) (w : World) (e : Ending) (w' : World) : Prop :=
  e = .returned (.tuple #[(p.2.1.getD .zero).val, .bool p.2.1.isSome, .int .i64 p.2.2]) ∧ MI c K w' p.1 ∧ Only c.W w w'
set_option maxRecDepth 100000 in
set_option maxHeartbeats 2000000 in
theorem row_ok {w : World} {s : PS R} (hc : c.Fit) (hK : KOk c.lo K) (hT : KTab K) (hG : GetOk c.b K get) (h : MI c K w s) (i : Nat) (hi : i < 8) :
    Calls Tryz.prog 243 #[.pointer (some ⟨c.M, 0, none⟩), .int .i64 i] w (RowP c K (rowP c.ok get i s) w) := by
  have hb0 := new_box w (.cells #[.int .i64 0, .int .i64 0, .int .i64 0, .int .i64 0] 44)
  have k0 := heap_alloc_new w (.cells #[.int .i64 0, .int .i64 0, .int .i64 0, .int .i64 0] 44)
  have h1 := h.lend hc hK hb0 (Nat.le_refl _) (by simp)
  have hlo : c.lo ≤ w.heap.size := by obtain ⟨_, hm, _⟩ := h; have := hm.lt; have := hc.low; omega
  have HC := Lib.hid (And.intro hc (And.intro hK (And.intro hT (And.intro hG hlo))))
  have HS := Lib.hid (show ∀ k, c.S k → k < w.heap.size by obtain ⟨_, _, _, _, _, _, h6, _⟩ := h; exact h6)
  have i1 : (0 : Int) ≤ (i : Int) := by omega
  have i2 : (i : Int) < 8 := by omega
  go_enter Tryz.func243, Tryz.ntmps243
  go_upto_region 1 with fail
  generalize w.alloc (.cells #[.int .i64 0, .int .i64 0, .int .i64 0, .int .i64 0] 44) = w1 at hb0 k0 h1 ⊢
  obtain ⟨R0, hR⟩ : ∃ x, w.heap.size = x := ⟨_, rfl⟩
  rw [hR] at k0 h1 ⊢
  have HR := Lib.hid (And.intro hR (And.intro hb0 k0))
  have HI := Lib.hid h1
  obtain ⟨f, hm, _, _, _, hk, _, hfit⟩ := h1
  have c1 := hm.reg hi
  have hreg := hfit.1 i
  have HKey := Lib.hid (And.intro (key_ok w1 (s.reg i) hreg.i64 (hT _ _ hk)) hreg)
  simp only [RC.ms] at c1
  have HL := Lib.hid (hc.lend R0)
  clear h hb0 k0 hR hm hk hfit hreg hc hK hT hG hlo
  change World.cell? w1 ⟨c.M, 18 + i, none⟩ = _ at c1
  go_wp2_with fail
  refine HKey.out.1.mono ?_
  rintro e w2 ⟨rfl, hb2⟩
  have h2 := HI.out.below HL.out HC.out.2.1 hb2
  have hb2' := HR.out.2.1.trans (hb2.mono HR.out.2.1.size)
  have k2 := (Only.of_below hb2 (fun _ => False)).heap HR.out.2.2 (fun h => h)
  have hbx := new_box w2 (.cells #[.bool false, .int .i64 (-1), .string ⟨(Lib.itoa (s.reg i)).toArray⟩, .int .i64 0, .int .i64 0] 62)
  have kx := heap_alloc_new w2 (.cells #[.bool false, .int .i64 (-1), .string ⟨(Lib.itoa (s.reg i)).toArray⟩, .int .i64 0, .int .i64 0] 62)
  have H2 := Lib.hid (And.intro h2 (And.intro hb2' (And.intro k2 (And.intro hbx kx))))
  clear hb2 h2 hb2' k2 hbx kx c1 HI
  go_wp2_with fail
  have H3 := H2.out
  clear H2
  generalize w2.alloc (.cells #[.bool false, .int .i64 (-1), .string ⟨(Lib.itoa (s.reg i)).toArray⟩, .int .i64 0, .int .i64 0] 62) = w3 at H3 ⊢
  obtain ⟨h2, hb2, k2, hbx, kx⟩ := H3
  obtain ⟨X, hX⟩ : ∃ x, w2.heap.size = x := ⟨_, rfl⟩
  have hX2 : R0 < X := by have := lt_heap k2; omega
  have h3 := h2.below HL.out HC.out.2.1 hbx
  have hb3 := hb2.trans (hbx.mono hb2.size)
  have k3 := (Only.of_below hbx (fun _ => False)).heap k2 (fun h => h)
  rw [hX] at kx ⊢
  have hcl := cl_of_block (l := [clRow (s.reg i)]) (F := fun k => ¬ (c.lend R0).S k) kx rfl (fun hs => by
    rcases hs with hs | hs
    · have := HS.out X hs; have := HR.out.1; omega
    · omega) (by simp [maxLen])
  have H3 := Lib.hid (And.intro hb3 k3)
  have HCl := Lib.hid (mclaim_ok HL.out HC.out.2.1 h3 [clRow (s.reg i)] _ hcl (by simp) (clRow_good HKey.out.2))
  obtain ⟨cl', n, hp⟩ : ∃ cl' n, claimGo c.ok s.cl [clRow (s.reg i)] = (cl', n) := ⟨_, _, rfl⟩
  rw [show (c.lend R0).ok = c.ok from rfl, hp] at HCl
  have HP := Lib.hid hp
  clear h2 hb2 k2 hbx kx hX hX2 h3 hb3 k3 hcl hp
  refine HCl.out.mono ?_
  rintro e w4 ⟨rfl, hI4, ho4⟩
  have hRn : ¬ c.S R0 := fun hs => by have := HS.out R0 hs; have := HR.out.1; omega
  have hRM : ¬ R0 = c.M := fun e => hRn (by rw [e]; exact HC.out.1.own)
  have k4 := ho4.heap H3.out.2 hRM
  have hO4 : Only c.W w w4 := (Only.of_below H3.out.1 _).trans ho4 (fun k _ hk => by subst hk; exact HC.out.1.wown)
  have H4 := Lib.hid (And.intro hI4 (And.intro hO4 (And.intro k4 hRn)))
  obtain ⟨⟨z0, z1, z2, z3⟩, y0, y1, y2, y3⟩ := blk4z k4
  clear ho4 k4 hO4 HCl hRn hRM
  by_cases hn : n = 0
  · subst hn
    obtain ⟨f4, hm4, _, _, _, hk4, _, hfit4⟩ := hI4
    have hbB := hm4.b
    simp only [RC.ms] at hbB
    change World.cell? w4 ⟨c.M, 26, none⟩ = _ at hbB
    have HG := Lib.hid (HC.out.2.2.2.1 s.rows w4 (Lib.itoa (s.reg i)) hk4 (itoa_key HKey.out.2))
    clear hm4 hk4 hfit4
    go_wp2_with fail
    have hbc : (c.lend R0).b = c.b := rfl
    rw [hbc]
    obtain ⟨q, hq⟩ : ∃ q, get s.rows (Lib.itoa (s.reg i)) = q := ⟨_, rfl⟩
    rw [hq] at HG
    have HQ := Lib.hid hq
    clear hq hbc
    refine HG.out.mono ?_
    rintro e w5 ⟨rfl, hb5⟩
    cases q with
    | none =>
      simp only [Option.getD_none, Option.isSome_none, Rw.val, Rw.zero]
      have hbz := new_box w5 (.cells #[.int .i64 0, .int .i64 0, .int .i64 0, .int .i64 0] 44)
      have hb6 := hb5.trans (hbz.mono hb5.size)
      have k6 := (Only.of_below hb6 (fun _ => False)).heap H4.out.2.2.1 (fun h => h)
      have kz := blk4z (heap_alloc_new w5 (.cells #[.int .i64 0, .int .i64 0, .int .i64 0, .int .i64 0] 44))
      have hne : ¬ w5.heap.size = R0 := by have := lt_heap H4.out.2.2.1; have := hb5.size; omega
      have H6 := Lib.hid (And.intro hb6 (And.intro k6 (And.intro hne kz)))
      clear hbz hb6 k6 hb5 hne kz
      go_upto_region 6 with fail
      have H7 := H6.out
      clear H6
      generalize w5.alloc (.cells #[.int .i64 0, .int .i64 0, .int .i64 0, .int .i64 0] 44) = w6 at H7 ⊢
      generalize w5.heap.size = Z at H7 ⊢
      obtain ⟨hb6, k6, hne, ⟨x0, x1, x2, x3⟩, _⟩ := H7
      obtain ⟨⟨z0, z1, z2, z3⟩, y0, y1, y2, y3⟩ := blk4z k6
      have H6 := Lib.hid (And.intro hb6 k6)
      clear hb6 k6
      go_wp2_with fail
      have hpq := put4r (v0 := .int .i64 0) (v1 := .int .i64 0) (v2 := .int .i64 0) (v3 := .int .i64 0) H6.out.2
      have ho := (((only1 w6 R0 0 (.int .i64 0)).setCell (p := ⟨R0, 1, none⟩) (fun _ => rfl) (.int .i64 0)).setCell (p := ⟨R0, 2, none⟩) (fun _ => rfl) (.int .i64 0)).setCell (p := ⟨R0, 3, none⟩) (fun _ => rfl) (.int .i64 0)
      have HO := Lib.hid (And.intro hpq ho)
      clear hpq ho
      generalize ((((w6.setCell ⟨R0, 0, none⟩ (.int .i64 0)).setCell ⟨R0, 1, none⟩ (.int .i64 0)).setCell ⟨R0, 2, none⟩ (.int .i64 0)).setCell ⟨R0, 3, none⟩ (.int .i64 0)) = w7 at HO ⊢
      refine bodyPost_ret (results_cell_row3 rfl _ _ _ _ _ _ _ rfl HO.out.1 Tryz.underlying44 rfl (by kernel_rfl)) rfl ⟨?_, ?_, ?_⟩
      · unfold rowP
        rw [HP.out]
        simp only [if_true, HQ.out]
        rfl
      · unfold rowP
        rw [HP.out]
        exact (H4.out.1.below HL.out HC.out.2.1 H6.out.1).back H4.out.2.2.2 HC.out.1 HC.out.2.1 (by have := HC.out.2.2.2.2; have := HR.out.1; omega) HO.out.2
      · exact (H4.out.2.1.trans (Only.of_below H6.out.1 c.W) (fun _ _ h => h)).trans HO.out.2 (fun k hk hs => by have := HR.out.1; omega)
    | some rho =>
      obtain ⟨ra, rb, rc, rd⟩ := rho
      simp only [Option.getD_some, Option.isSome_some, Rw.val, if_true]
      have hbz := new_box w5 (.cells #[.int .i64 ra, .int .i64 rb, .int .i64 rc, .int .i64 rd] 44)
      have hb6 := hb5.trans (hbz.mono hb5.size)
      have k6 := (Only.of_below hb6 (fun _ => False)).heap H4.out.2.2.1 (fun h => h)
      have kz := blk4z (heap_alloc_new w5 (.cells #[.int .i64 ra, .int .i64 rb, .int .i64 rc, .int .i64 rd] 44))
      have hne : ¬ w5.heap.size = R0 := by have := lt_heap H4.out.2.2.1; have := hb5.size; omega
      have H6 := Lib.hid (And.intro hb6 (And.intro k6 (And.intro hne kz)))
      clear hbz hb6 k6 hb5 hne kz
      go_upto_region 6 with fail
      have H7 := H6.out
      clear H6
      generalize w5.alloc (.cells #[.int .i64 ra, .int .i64 rb, .int .i64 rc, .int .i64 rd] 44) = w6 at H7 ⊢
      generalize w5.heap.size = Z at H7 ⊢
      obtain ⟨hb6, k6, hne, ⟨x0, x1, x2, x3⟩, _⟩ := H7
      obtain ⟨⟨z0, z1, z2, z3⟩, y0, y1, y2, y3⟩ := blk4z k6
      have H6 := Lib.hid (And.intro hb6 k6)
      clear hb6 k6
      go_wp2_with fail
      have hpq := put4r (v0 := .int .i64 ra) (v1 := .int .i64 rb) (v2 := .int .i64 rc) (v3 := .int .i64 rd) H6.out.2
      have ho := (((only1 w6 R0 0 (.int .i64 ra)).setCell (p := ⟨R0, 1, none⟩) (fun _ => rfl) (.int .i64 rb)).setCell (p := ⟨R0, 2, none⟩) (fun _ => rfl) (.int .i64 rc)).setCell (p := ⟨R0, 3, none⟩) (fun _ => rfl) (.int .i64 rd)
      have HO := Lib.hid (And.intro hpq ho)
      clear hpq ho
      generalize ((((w6.setCell ⟨R0, 0, none⟩ (.int .i64 ra)).setCell ⟨R0, 1, none⟩ (.int .i64 rb)).setCell ⟨R0, 2, none⟩ (.int .i64 rc)).setCell ⟨R0, 3, none⟩ (.int .i64 rd)) = w7 at HO ⊢
      refine bodyPost_ret (results_cell_row3 rfl _ _ _ _ _ _ _ rfl HO.out.1 Tryz.underlying44 rfl (by kernel_rfl)) rfl ⟨?_, ?_, ?_⟩
      · unfold rowP
        rw [HP.out]
        simp only [if_true, HQ.out]
        rfl
      · unfold rowP
        rw [HP.out]
        exact (H4.out.1.below HL.out HC.out.2.1 H6.out.1).back H4.out.2.2.2 HC.out.1 HC.out.2.1 (by have := HC.out.2.2.2.2; have := HR.out.1; omega) HO.out.2
      · exact (H4.out.2.1.trans (Only.of_below H6.out.1 c.W) (fun _ _ h => h)).trans HO.out.2 (fun k hk hs => by have := HR.out.1; omega)
  · clear hI4
    have hn2 : (n != 0) = true := by simpa using hn
    have HN := Lib.hid hn
    clear hn
    go_wp2_with fail
    have hpq := put4r (v0 := .int .i64 0) (v1 := .int .i64 0) (v2 := .int .i64 0) (v3 := .int .i64 0) H4.out.2.2.1
    have ho := (((only1 w4 R0 0 (.int .i64 0)).setCell (p := ⟨R0, 1, none⟩) (fun _ => rfl) (.int .i64 0)).setCell (p := ⟨R0, 2, none⟩) (fun _ => rfl) (.int .i64 0)).setCell (p := ⟨R0, 3, none⟩) (fun _ => rfl) (.int .i64 0)
    have HO := Lib.hid (And.intro hpq ho)
    clear hpq ho
    generalize ((((w4.setCell ⟨R0, 0, none⟩ (.int .i64 0)).setCell ⟨R0, 1, none⟩ (.int .i64 0)).setCell ⟨R0, 2, none⟩ (.int .i64 0)).setCell ⟨R0, 3, none⟩ (.int .i64 0)) = w5 at HO ⊢
    refine bodyPost_ret (results_cell_row3 rfl _ _ _ _ _ _ _ rfl HO.out.1 Tryz.underlying44 rfl (by kernel_rfl)) rfl ⟨?_, ?_, ?_⟩
    · unfold rowP
      rw [HP.out]
      simp only [if_neg HN.out]
      rfl
    · unfold rowP
      rw [HP.out]
      exact H4.out.1.back H4.out.2.2.2 HC.out.1 HC.out.2.1 (by have := HC.out.2.2.2.2; have := HR.out.1; omega) HO.out.2
    · exact H4.out.2.1.trans HO.out.2 (fun k hk hs => by have := HR.out.1; omega)
end
end Go.Proofs.YtfaaigfgfljdkaaGreatDoor
