import Derived.Test.YtagemonojdgbdaaGreatDoorQ22
import Derived.Maps.OwnSet
import Derived.Maps.OwnOps
import Derived.DeepKeys4
import Derived.Deep.RegionHeld3
import Derived.StillTailTactics
import Derived.StringKeys
namespace Go.Proofs.YtagemonojdgbdaaGreatDoor
set_option maxRecDepth 100000
open Go.RowKit
section
open Go.RowKit Go.Maps Go.WideShapes
def Ff (v : Value) : Option (DataW Value × List MemPlace) := some (.held v, [])
def fy (P : Program) (w : World) (K : TypeId) (b n : Nat) (g : Value -> Option Value) : Prop :=
 ∃ D : DataW Value, w.ownsMap P K Ff b n D /\ ∀ v kl, keyOf P K v = some kl -> Maps.has D kl = (g v).isSome /\ ∀ z, D.atKey kl (.held z) = .held ((g v).getD z)
section
variable {P : Program} {w w' : World} {K : TypeId} {b n : Nat} {g : Value -> Option Value}
theorem fy.lt (h : fy P w K b n g) : b < w.heap.size := by
 obtain ⟨D, h, _⟩ := h
 exact h.lt
theorem fy.made (P : Program) (w : World) (K : TypeId) : fy P (w.alloc (.map #[] 0)) K w.heap.size 0 (fun _ => none) :=
 ⟨_, World.ownsMap_made _ _ _ _, fun _ _ _ => ⟨rfl, fun _ => rfl⟩⟩
theorem fy.same (h : fy P w K b n g) (hb : w'.heap[b]? = w.heap[b]?) : fy P w' K b n g := by
 obtain ⟨D, ⟨es, clock, h1, r1⟩, r⟩ := h
 exact ⟨D, ⟨es, clock, hb.trans h1, r1⟩, r⟩
theorem fy.only {S : Nat -> Prop} (h : fy P w K b n g) (ho : Only S w w') (hS : ¬ S b) : fy P w' K b n g := h.same (ho.block b h.lt hS)
theorem fy.below (h : fy P w K b n g) (ho : Below w.heap.size w w') : fy P w' K b n g := h.same (ho.block b h.lt)
theorem fy.look_ok (h : fy P w K b n g) (L : Keyed P K) {t e : TypeId} (ht : P.underlying t = some (.map K e)) {z : Value} (hz : (zeroValue e).run P w = .ok z w) {key : Value} {kl : Lit} (hkey : keyOf P K key = some kl) :
  (Instr.lookup t (.map (some b)) key true).run P w = .ok (.tuple #[(g key).getD z, .bool (g key).isSome]) w := by
 obtain ⟨D, h, r⟩ := h
 obtain ⟨v, ps, hrun, hv⟩ := h.look_ok L ht hz (show Ff z = some (.held z, []) from rfl) hkey
 rw [(r key kl hkey).2 z] at hv
 unfold Ff at hv
 injection hv with hv
 injection hv with hv
 injection hv with hv
 rw [hrun, hv, (r key kl hkey).1]
end
section
variable {P : Program} (w : World) {ops : Array Oper} {rest : List Oper} {o : Oper} {a : Act} {Q : Exit -> Act -> World -> Prop}
theorem fH (hg : o.guard = none) (m x : Operand) (t : TypeId) (hop : o.op = Op.lookup t m x true) {K e : TypeId} (L : Keyed P K) (ht : P.underlying t = some (.map K e)) {z : Value} (hz : (zeroValue e).run P w = .ok z w) {b n : Nat} {g : Value -> Option Value}
  (hm : a.eval m = .map (some b)) (hown : fy P w K b n g) {key : Value} {kl : Lit} (hx : a.eval x = key) (hkey : keyOf P K key = some kl) (u : Value) (q : Bool) (hu : (g key).getD z = u) (hq : (g key).isSome = q)
  (hK : wpList P ops Q rest (a.put o.dst (.tuple #[u, .bool q])) w) : wpList P ops Q (o :: rest) a w := by
 subst hu hq
 refine wpList_plain hg fun K' hK' => ?_
 have hrun := hown.look_ok L ht hz hkey
 unfold Oper.wp
 simp [execOp, hop, hm, hx, hrun, Result.andThen]
 exact hK' _ _ hK
end
end
section
open Go.RowKit Go.Maps Go.WideShapes
theorem Hy : Keyed Tryz.prog 9 := string_keyed Tryz.underlying9
theorem Nq {k : List UInt8} (h : k.length <= maxLen) : keyOf Tryz.prog 9 (.string ⟨k.toArray⟩) = some (.string k) := by
 have hsz : (⟨k.toArray⟩ : ByteArray).size <= maxLen := by simpa [ByteArray.size] using h
 simpa using WideMaps.keyOf_string_mk (P := Tryz.prog) Tryz.underlying9 hsz
theorem Tryz.nH (w : World) : (zeroValue 155).run Tryz.prog w = .ok (.pointer none) w := by
 kernel_rfl
def xQ (w : World) (B T : Nat) (most n : Int) (L : Nat) : Prop :=
 ∃ m, w.heap[B]? = some (.cells #[.pointer (some ⟨T, 0, none⟩), .map (some m)] 109 (0, 0)) /\ fy Tryz.prog w 9 m 0 (fun _ => none) /\ jY w T most n L
theorem xQ.below {w w' : World} {B T L : Nat} {most n : Int} (h : xQ w B T most n L) (hb : Below w.heap.size w w') : xQ w' B T most n L := by
 obtain ⟨m, h1, h2, h3⟩ := h
 exact ⟨m, (Only.of_below hb (fun _ => False)).heap h1 (fun h => h), h2.below hb, h3.below hb⟩
theorem CP (w : World) (T L : Nat) (most n : Int) (h : jY w T most n L) : Calls Tryz.prog 8 #[.pointer (some ⟨T, 0, none⟩)] w fun e w' =>
  ∃ B, e = .returned (.tuple #[.pointer (some ⟨B, 0, none⟩), .int .i64 0]) /\ w.heap.size <= B /\ xQ w' B T most n L /\ Below w.heap.size w w' := by
 have hmm := @run_makeMap Tryz.prog
 have hm := fy.made Tryz.prog w 9
 have hb := ag w (.map #[] 0)
 have hb2 := ag (w.alloc (.map #[] 0)) (.cells #[.pointer (some ⟨T, 0, none⟩), .map (some w.heap.size)] 109)
 have k2 := heap_alloc_new (w.alloc (.map #[] 0)) (.cells #[.pointer (some ⟨T, 0, none⟩), .map (some w.heap.size)] 109)
 have H := Lib.hid (show ∃ B, B = w.heap.size + 1 /\ w.heap.size <= B /\ xQ ((w.alloc (.map #[] 0)).alloc (.cells #[.pointer (some ⟨T, 0, none⟩), .map (some w.heap.size)] 109)) B T most n L /\ Below w.heap.size w ((w.alloc (.map #[] 0)).alloc (.cells #[.pointer (some ⟨T, 0, none⟩), .map (some w.heap.size)] 109)) from
  ⟨_, rfl, by omega, ⟨w.heap.size, by simpa using k2, hm.below hb2, (h.below hb).below hb2⟩, hb.trans (hb2.mono (by simp))⟩)
 clear h hm hb hb2 k2
 go_enter Tryz.func8, Tryz.ntmps8
 go_wp2_with fail
 go_ret2
 obtain ⟨B, e, h3, h4, h5⟩ := H.out
 subst e
 exact ⟨_, rfl, h3, h4, h5⟩
set_option maxHeartbeats 1000000 in
theorem zA (w : World) (B T L : Nat) (most n : Int) (k : List UInt8) (hs1 : 1 <= k.length) (hs2 : k.length <= 16) (h : xQ w B T most n L) : Calls Tryz.prog 38 #[.pointer (some ⟨B, 0, none⟩), .string ⟨k.toArray⟩] w fun e w' => e = .returned (.tuple #[uS, .int .i64 14]) /\ Below w.heap.size w w' := by
 have hb0 := ag w (.cells #[.int .i64 0, .int .i64 0, .int .i64 0, .int .i64 0] 26)
 have k0 := heap_alloc_new w (.cells #[.int .i64 0, .int .i64 0, .int .i64 0, .int .i64 0] 26)
 have h1 := h.below hb0
 go_enter Tryz.func38, Tryz.ntmps38
 go_upto_region 1 with fail
 generalize w.alloc (.cells #[.int .i64 0, .int .i64 0, .int .i64 0, .int .i64 0] 26) = w1 at hb0 k0 h1 ⊢
 obtain ⟨R, hR⟩ : ∃ x, w.heap.size = x := ⟨_, rfl⟩
 rw [hR] at k0 ⊢
 have HR := Lib.hid (And.intro hR (And.intro hb0 k0))
 obtain ⟨m, g1, g2, g3⟩ := h1
 have d0 : w1.cell? ⟨B, 0, none⟩ = some (.pointer (some ⟨T, 0, none⟩)) := by simp [World.cell?, g1]
 have d1 : w1.cell? ⟨B, 1, none⟩ = some (.map (some m)) := by simp [World.cell?, g1]
 have zB : cO k = 0 := by unfold cO; rw [if_neg (by omega)]
 have HC := Lib.hid (dE w1 k)
 have HT := Lib.hid (And.intro (uT w1 T L most n ⟨k.toArray⟩ (by simpa [ByteArray.size] using hs1) (by simpa [ByteArray.size] using hs2) g3) (And.intro g2 (Nq (k := k) (by simp [maxLen]; omega))))
 rw [zB] at HC
 clear h hb0 k0 hR hs1 hs2 g1 g2 g3 zB
 go_wp2_with fail
 refine HC.out.mono ?_
 rintro e w2 ⟨rfl, rfl⟩
 go_wp2_with (first | (at_lookup; go_loud (refine fH _ rfl _ _ 107 rfl Hy Tryz.underlying107 (Tryz.nH _) rfl HT.out.2.1 rfl HT.out.2.2 _ false rfl rfl ?_)) | fail)
 refine HT.out.1.mono ?_
 rintro e w3 ⟨rfl, hb⟩
 have k3 := (Only.of_below hb (fun _ => False)).heap HR.out.2.2 (fun h => h)
 have HB := Lib.hid (And.intro hb k3)
 have z0 : w3.cell? ⟨R, 0, none⟩ = some (.int .i64 0) := by simp [World.cell?, k3]
 have z1 : w3.cell? ⟨R, 1, none⟩ = some (.int .i64 0) := by simp [World.cell?, k3]
 have z2 : w3.cell? ⟨R, 2, none⟩ = some (.int .i64 0) := by simp [World.cell?, k3]
 have z3 : w3.cell? ⟨R, 3, none⟩ = some (.int .i64 0) := by simp [World.cell?, k3]
 have y0 : w3.frozen? ⟨R, 0, none⟩ = false := by simp [World.frozen?, k3]
 have y1 : w3.frozen? ⟨R, 1, none⟩ = false := by simp [World.frozen?, k3]
 have y2 : w3.frozen? ⟨R, 2, none⟩ = false := by simp [World.frozen?, k3]
 have y3 : w3.frozen? ⟨R, 3, none⟩ = false := by simp [World.frozen?, k3]
 clear hb k3
 unfold uS
 go_wp2_with fail
 have hp := pj (v0 := .int .i64 0) (v1 := .int .i64 0) (v2 := .int .i64 0) (v3 := .int .i64 0) HB.out.2
 have di : Below w.heap.size w w3 := HR.out.2.1.trans (HB.out.1.mono HR.out.2.1.size)
 have se : w.heap.size <= R := Nat.le_of_eq HR.out.1
 exact bodyPost_ret (aA rfl _ _ _ _ _ _ _ rfl hp Tryz.underlying26 rfl (by kernel_rfl)) rfl ⟨rfl, (((di.setCell (p := ⟨R, 0, none⟩) se _).setCell (p := ⟨R, 1, none⟩) se _).setCell (p := ⟨R, 2, none⟩) se _).setCell (p := ⟨R, 3, none⟩) se _⟩
end
end Go.Proofs.YtagemonojdgbdaaGreatDoor
