import Derived.Test.YtagemonojdgbdaaGreatDoorC02
import Derived.Test.YtagemonojdgbdaaGreatDoorProg
import Derived.Maps.OwnSet
import Derived.Maps.OwnOps
import Derived.DeepKeys4
import Derived.Deep.RegionHeld3
import Derived.StillTailTactics
namespace Go.Proofs.YtagemonojdgbdaaGreatDoor
set_option maxRecDepth 100000
open Go.RowKit
section
open Go.RowKit Go.Maps Go.WideShapes
def heldE (v : Value) : Option (DataW Value × List MemPlace) := some (.held v, [])
noncomputable def updM (g : Value → Option Value) (k : Value) (d : Option Value) : Value → Option Value := fun x => @ite _ (x = k) (Classical.propDecidable _) d (g x)
theorem updM_same (g : Value → Option Value) (k : Value) (d : Option Value) : updM g k d k = d := by
 unfold updM
 exact @if_pos _ (Classical.propDecidable _) rfl _ _ _
theorem updM_other (g : Value → Option Value) {k x : Value} (d : Option Value) (h : x ≠ k) : updM g k d x = g x := by
 unfold updM
 exact @if_neg _ (Classical.propDecidable _) h _ _ _
def MapAt (P : Program) (w : World) (K : TypeId) (b n : Nat) (g : Value → Option Value) : Prop :=
 ∃ D : DataW Value, w.ownsMap P K heldE b n D ∧ ∀ v kl, keyOf P K v = some kl → Maps.has D kl = (g v).isSome ∧ ∀ z, D.atKey kl (.held z) = .held ((g v).getD z)
section
variable {P : Program} {w w' : World} {K : TypeId} {b n : Nat} {g : Value → Option Value}
theorem MapAt.lt (h : MapAt P w K b n g) : b < w.heap.size := by
 obtain ⟨D, h, _⟩ := h
 exact h.lt
theorem MapAt.made (P : Program) (w : World) (K : TypeId) : MapAt P (w.alloc (.map #[] 0)) K w.heap.size 0 (fun _ => none) :=
 ⟨_, World.ownsMap_made _ _ _ _, fun _ _ _ => ⟨rfl, fun _ => rfl⟩⟩
theorem MapAt.same (h : MapAt P w K b n g) (hb : w'.heap[b]? = w.heap[b]?) : MapAt P w' K b n g := by
 obtain ⟨D, ⟨es, clock, h1, r1⟩, r⟩ := h
 exact ⟨D, ⟨es, clock, hb.trans h1, r1⟩, r⟩
theorem MapAt.only {S : Nat → Prop} (h : MapAt P w K b n g) (ho : Only S w w') (hS : ¬ S b) : MapAt P w' K b n g := h.same (ho.block b h.lt hS)
theorem MapAt.below (h : MapAt P w K b n g) (ho : Below w.heap.size w w') : MapAt P w' K b n g := h.same (ho.block b h.lt)
theorem MapAt.look_ok (h : MapAt P w K b n g) (L : Keyed P K) {t e : TypeId} (ht : P.underlying t = some (.map K e)) {z : Value} (hz : (zeroValue e).run P w = .ok z w) {key : Value} {kl : Lit} (hkey : keyOf P K key = some kl) :
  (Instr.lookup t (.map (some b)) key true).run P w = .ok (.tuple #[(g key).getD z, .bool (g key).isSome]) w := by
 obtain ⟨D, h, r⟩ := h
 obtain ⟨v, ps, hrun, hv⟩ := h.look_ok L ht hz (show heldE z = some (.held z, []) from rfl) hkey
 rw [(r key kl hkey).2 z] at hv
 unfold heldE at hv
 injection hv with hv
 injection hv with hv
 injection hv with hv
 rw [hrun, hv, (r key kl hkey).1]
theorem MapAt.store (h : MapAt P w K b n g) (L : Keyed P K) {t e : TypeId} (ht : P.underlying t = some (.map K e)) (hn : n < maxLen) {key val : Value} {kl : Lit} (hkey : keyOf P K key = some kl) :
  ∃ w', (Instr.mapUpdate t (.map (some b)) key val).run P w = .ok () w' ∧ MapAt P w' K b (n + 1) (updM g key (some val)) ∧ Only (fun k => k = b) w w' := by
 obtain ⟨D, h, r⟩ := h
 obtain ⟨w', hrun, h1, h2⟩ := h.store L ht hn hkey (show heldE val = some (.held val, []) from rfl)
 refine ⟨w', hrun, ⟨_, h1, fun v l hl => ?_⟩, ?_⟩
 ·by_cases e : v = key
  ·subst e
   have : l = kl := Option.some.inj (hl.symm.trans hkey)
   subst this
   rw [updM_same]
   exact ⟨has_put_same h.isMap (L.key hkey) _, fun z => atKey_put_same h.isMap (L.key hkey) _ _⟩
  ·have hne : l ≠ kl := fun e1 => e (L.inj (by rw [← e1]; exact hl) hkey)
   rw [updM_other _ _ e, has_put_other hne]
   exact ⟨(r v l hl).1, fun z => by rw [atKey_put_other hne]; exact (r v l hl).2 z⟩
 ·exact (Only.of_grownBy h2.grown).mono (fun i _ e => by injection e with e; exact e.symm)
theorem MapAt.drop (h : MapAt P w K b n g) (L : Keyed P K) {t e : TypeId} (ht : P.underlying t = some (.map K e)) {key : Value} {kl : Lit} (hkey : keyOf P K key = some kl) (ty : TypeId) :
  ∃ w', (Builtin.delete_ #[t, K] ty #[.map (some b), key]).run P w = .ok (.tuple #[]) w' ∧ MapAt P w' K b n (updM g key none) ∧ Only (fun k => k = b) w w' := by
 obtain ⟨D, h, r⟩ := h
 obtain ⟨w', hrun, h1, h2⟩ := h.drop L ht hkey ty
 refine ⟨w', hrun, ⟨_, h1, fun v l hl => ?_⟩, ?_⟩
 ·by_cases e : v = key
  ·subst e
   have : l = kl := Option.some.inj (hl.symm.trans hkey)
   subst this
   rw [updM_same]
   exact ⟨has_del_same, fun z => atKey_del_same _⟩
  ·have hne : l ≠ kl := fun e1 => e (L.inj (by rw [← e1]; exact hl) hkey)
   rw [updM_other _ _ e, has_del_other hne]
   exact ⟨(r v l hl).1, fun z => by rw [atKey_del_other hne]; exact (r v l hl).2 z⟩
 ·exact (Only.of_grownBy h2.grown).mono (fun i _ e => by injection e with e; exact e.symm)
end
section
variable {P : Program} (w : World) {ops : Array Oper} {rest : List Oper} {o : Oper} {a : Act} {Q : Exit → Act → World → Prop}
theorem wpList_look_ok (hg : o.guard = none) (m x : Operand) (t : TypeId) (hop : o.op = Op.lookup t m x true) {K e : TypeId} (L : Keyed P K) (ht : P.underlying t = some (.map K e)) {z : Value} (hz : (zeroValue e).run P w = .ok z w) {b n : Nat} {g : Value → Option Value}
  (hm : a.eval m = .map (some b)) (hown : MapAt P w K b n g) {key : Value} {kl : Lit} (hx : a.eval x = key) (hkey : keyOf P K key = some kl) (u : Value) (q : Bool) (hu : (g key).getD z = u) (hq : (g key).isSome = q)
  (hK : wpList P ops Q rest (a.put o.dst (.tuple #[u, .bool q])) w) : wpList P ops Q (o :: rest) a w := by
 subst hu hq
 refine wpList_plain hg fun K' hK' => ?_
 have hrun := hown.look_ok L ht hz hkey
 unfold Oper.wp
 simp [execOp, hop, hm, hx, hrun, Result.andThen]
 exact hK' _ _ hK
theorem wpList_store (hg : o.guard = none) (m x v : Operand) (t : TypeId) (hop : o.op = Op.mapUpdate t m x v) {K e : TypeId} (L : Keyed P K) (ht : P.underlying t = some (.map K e)) {b n : Nat} {g : Value → Option Value}
  (hm : a.eval m = .map (some b)) (hown : MapAt P w K b n g) (hn : n < maxLen) {key val : Value} {kl : Lit} (hx : a.eval x = key) (hv : a.eval v = val) (hkey : keyOf P K key = some kl)
  (hK : ∀ w', MapAt P w' K b (n + 1) (updM g key (some val)) → Only (fun k => k = b) w w' → wpList P ops Q rest (a.put o.dst undef) w') : wpList P ops Q (o :: rest) a w := by
 refine wpList_plain hg fun K' hK' => ?_
 obtain ⟨w', hrun, r1, r2⟩ := hown.store L ht hn (val := val) hkey
 unfold Oper.wp
 simp [execOp, hop, hm, hx, hv, hrun, Result.andThen]
 exact hK' _ _ (hK w' r1 r2)
end
theorem lawI : Keyed Tryz.prog 3 := int_keyed Tryz.underlying3
theorem keyI0 : keyOf Tryz.prog 3 (.int .i64 0) = some (.int .i64 0) := keyOf_int_mk Tryz.underlying3 (by decide)
end
end Go.Proofs.YtagemonojdgbdaaGreatDoor
