import Derived.WalkKit
import Derived.WalkSpells
import Derived.WalkLawsBesides
import Derived.Lib.Hide
import Derived.Maps.AppendAt
import Derived.Deep.AppendLies
import Derived.Deep.QuietTactic
import Derived.BigQuiet
namespace Go.Proofs.YtagemonojdgbdaaGreatDoor
set_option maxRecDepth 100000
open Go.RowKit
structure Only (S : Nat → Prop) (w w' : World) : Prop where
 os : w'.os = w.os
 tape : w'.tape = w.tape
 output : w'.output = w.output
 size : w.heap.size ≤ w'.heap.size
 block : ∀ k, k < w.heap.size → ¬ S k → w'.heap[k]? = w.heap[k]?
section
variable {S T : Nat → Prop} {w w' w'' : World}
theorem Only.refl (S : Nat → Prop) (w : World) : Only S w w := ⟨rfl, rfl, rfl, Nat.le_refl _, fun _ _ _ => rfl⟩
theorem Only.trans (h : Only S w w') (k : Only T w' w'') (hT : ∀ i, i < w.heap.size → T i → S i) : Only S w w'' :=
 ⟨k.os.trans h.os, k.tape.trans h.tape, k.output.trans h.output, Nat.le_trans h.size k.size,
  fun i hi hS => (k.block i (Nat.lt_of_lt_of_le hi h.size) (fun ht => hS (hT i hi ht))).trans (h.block i hi hS)⟩
theorem Only.mono (h : Only S w w') (hS : ∀ i, i < w.heap.size → S i → T i) : Only T w w' :=
 ⟨h.os, h.tape, h.output, h.size, fun i hi hT => h.block i hi (fun hs => hT (hS i hi hs))⟩
theorem Only.drew (h : Only S w w') : Only S w w'.drew := ⟨h.os, h.tape, h.output, h.size, h.block⟩
theorem Only.drewN (h : Only S w w') (n : Nat) : Only S w (w'.drewN n) := ⟨h.os, h.tape, h.output, h.size, h.block⟩
theorem Only.alloc (h : Only S w w') (o : Obj) : Only S w (w'.alloc o) :=
 h.trans (T := S) ⟨rfl, rfl, rfl, by simp, fun k hk _ => Below.heap_alloc _ _ _ hk⟩ (fun _ _ hh => hh)
theorem Only.setCell (h : Only S w w') {p : Addr} (hp : p.block < w.heap.size → S p.block) (u : Value) : Only S w (w'.setCell p u) :=
 h.trans (T := fun k => k = p.block) ⟨rfl, rfl, rfl, by simp [World.setCell], fun k _ hk => Below.heap_setCell _ _ _ _ hk⟩ (fun i hi e => by subst e; exact hp hi)
theorem Only.grown (h : Only S w w') {row : Option Nat} (hg : w'.grownBy w'' row) (hr : ∀ k, row = some k → k < w.heap.size → S k) : Only S w w'' :=
 h.trans (T := fun k => row = some k) ⟨hg.os, hg.tape, hg.output, hg.size, fun k hk hn => hg.block k hk (fun e => hn e.symm)⟩ (fun i hi e => hr i e hi)
theorem Only.of_grownBy {row : Option Nat} (hg : w.grownBy w' row) : Only (fun k => row = some k) w w' :=
 ⟨hg.os, hg.tape, hg.output, hg.size, fun k hk hn => hg.block k hk (fun e => hn e.symm)⟩
theorem Only.of_below (h : Below w.heap.size w w') (S : Nat → Prop) : Only S w w' := ⟨h.os, h.tape, h.output, h.size, fun k hk _ => h.block k hk⟩
theorem Only.below (h : Only S w w') (hS : ∀ k, k < w.heap.size → ¬ S k) : Below w.heap.size w w' := ⟨h.os, h.tape, h.output, h.size, fun k hk => h.block k hk (hS k hk)⟩
theorem Only.belowN {N : Nat} (h : Only S w w') (hN : N ≤ w.heap.size) (hS : ∀ k, k < N → ¬ S k) : Below N w w' := ⟨h.os, h.tape, h.output, h.size, fun k hk => h.block k (by omega) (hS k hk)⟩
theorem Only.cell (h : Only S w w') {p : Addr} {v : Value} (hc : w.cell? p = some v) (hp : ¬ S p.block) : w'.cell? p = some v :=
 (World.cell?_of_block (h.block p.block (World.block_lt_of_cell? w p hc) hp)).trans hc
theorem Only.heap (h : Only S w w') {k : Nat} {o : Obj} (hc : w.heap[k]? = some o) (hp : ¬ S k) : w'.heap[k]? = some o :=
 (h.block k (Array.getElem?_eq_some_iff.1 hc).1 hp).trans hc
end
theorem undrew {B : Nat} {w w' : World} (h : Below B w.drew w') : Below B w w' := ⟨h.os, h.tape, h.output, h.size, h.block⟩
theorem Only.set1 (w : World) (b o : Nat) (u : Value) : Only (fun k => k = b) w (w.setCell ⟨b, o, none⟩ u) :=
 (Only.refl (fun k => k = b) w).setCell (p := ⟨b, o, none⟩) (fun _ => rfl) u
def Rd (w : World) (F : Nat → Prop) (v : Value) (xs : List Value) : Prop :=
 ∃ (A : Option Addr) (n c : Nat), v = .slice A n c ∧ xs.length = n ∧ n ≤ c ∧ c ≤ maxLen ∧
  (0 < n → ∃ b o, A = some ⟨b, o, none⟩ ∧ F b ∧ ∀ j u, xs[j]? = some u → w.cell? ⟨b, o + j, none⟩ = some u)
section
variable {F G S : Nat → Prop} {w w' : World} {v : Value} {xs : List Value}
theorem Rd.mono (h : Rd w F v xs) (hF : ∀ k, F k → G k) : Rd w G v xs := by
 obtain ⟨A, n, c, hv, hl, hc, hm, hx⟩ := h
 exact ⟨A, n, c, hv, hl, hc, hm, fun hn => let ⟨b, o, e, hb, hu⟩ := hx hn; ⟨b, o, e, hF b hb, hu⟩⟩
theorem Rd.only (h : Rd w F v xs) (ho : Only S w w') (hd : ∀ k, F k → ¬ S k) : Rd w' F v xs := by
 obtain ⟨A, n, c, hv, hl, hc, hm, hx⟩ := h
 exact ⟨A, n, c, hv, hl, hc, hm, fun hn => let ⟨b, o, e, hb, hu⟩ := hx hn; ⟨b, o, e, hb, fun j u hj => ho.cell (hu j u hj) (hd b hb)⟩⟩
theorem Rd.below (h : Rd w F v xs) (hb : Below w.heap.size w w') : Rd w' F v xs := h.only (Only.of_below hb fun _ => False) (fun _ _ => id)
theorem Rd.nil (w : World) (F : Nat → Prop) : Rd w F (.slice none 0 0) [] := ⟨none, 0, 0, rfl, rfl, Nat.le_refl _, by simp [maxLen], fun h => absurd h (by omega)⟩
theorem Rd.of_own {base : Nat} {e : TypeId} {n : Nat} (h : w.ownsRow base e 1 v n xs) (hF : ∀ g, v.ownBlock = some g → F g) : Rd w F v xs := by
 rcases h.2 with ⟨rfl, rfl⟩ | ⟨g, cap, cur, rfl, _, hg, hn, hc, hs, ht⟩
 ·have : xs = [] := List.eq_nil_of_length_eq_zero (by simpa using h.1)
  subst this
  exact Rd.nil w F
 ·refine ⟨_, _, _, rfl, by simpa using h.1, hn, hc, fun _ => ⟨g, 0, rfl, hF g rfl, fun j u hu => ?_⟩⟩
  have := h.cells (g := g) rfl j u hu
  unfold Addr.add at this
  split at this
  ·subst_vars; simpa using this
  ·simpa using this
theorem cell_agree {p : Addr} (hag : ∀ k o, F k → w.heap[k]? = some o → w'.heap[k]? = some o) (hp : F p.block) (h : w.cell? p = some v) : w'.cell? p = some v := by
 have hlt := World.block_lt_of_cell? w p h
 exact (World.cell?_of_block (by rw [hag p.block _ hp (Array.getElem?_eq_getElem hlt), Array.getElem?_eq_getElem hlt])).trans h
theorem Rd.bound (h : Rd w F v xs) : Rd w (fun k => F k ∧ k < w.heap.size) v xs := by
 obtain ⟨A, n, c, hv, hl, hc, hm, hx⟩ := h
 refine ⟨A, n, c, hv, hl, hc, hm, fun hn => ?_⟩
 obtain ⟨b, o, e, hb, hu⟩ := hx hn
 exact ⟨b, o, e, ⟨hb, World.block_lt_of_cell? w _ (hu 0 _ (List.getElem?_eq_getElem (by omega)))⟩, hu⟩
end
theorem own_blk_ne {w : World} {base : Nat} {e t : TypeId} {size n g : Nat} {v : Value} {xs : List Value} {cs : Array Value} {fr : Nat × Nat} (h : w.ownsRow base e size v n xs) (hg : w.heap[g]? = some (.cells cs t fr)) (hne : e ≠ t) : v.ownBlock ≠ some g := by
 rcases h.2 with ⟨rfl, _⟩ | ⟨g', cap, cur, rfl, _, hh, _⟩
 ·simp [Value.ownBlock]
 ·intro he
  have : g' = g := by simpa [Value.ownBlock] using he
  subst this
  rw [hg] at hh
  injection hh with hh
  injection hh with _ ht
  exact hne ht.symm
theorem own_blk {w : World} {base : Nat} {e : TypeId} {size n g : Nat} {v : Value} {xs : List Value} (h : w.ownsRow base e size v n xs) (hg : v.ownBlock = some g) : ∃ cs fr, w.heap[g]? = some (.cells cs e fr) := by
 rcases h.2 with ⟨rfl, _⟩ | ⟨g', cap, cur, rfl, _, hh, _⟩
 ·simp [Value.ownBlock] at hg
 ·have : g' = g := by simpa [Value.ownBlock] using hg
  subst this
  exact ⟨_, _, hh⟩
theorem own_own_ne {w : World} {base base' : Nat} {e e' : TypeId} {size size' n n' g : Nat} {v v' : Value} {xs xs' : List Value} (h : w.ownsRow base e size v n xs) (h' : w.ownsRow base' e' size' v' n' xs') (hne : e ≠ e') (hg : v.ownBlock = some g) : v'.ownBlock ≠ some g := by
 obtain ⟨cs, fr, hb⟩ := own_blk h hg
 exact own_blk_ne h' hb (Ne.symm hne)
theorem own_below {w w' : World} {base : Nat} {e : TypeId} {size n : Nat} {v : Value} {xs : List Value} (h : w.ownsRow base e size v n xs) (hb : Below w.heap.size w w') : w'.ownsRow base e size v n xs := by
 refine ⟨h.1, ?_⟩
 rcases h.2 with hn | ⟨g, cap, cur, rfl, hg0, hgg, rest⟩
 ·exact .inl hn
 ·exact .inr ⟨g, cap, cur, rfl, hg0, by rw [hb.block g (Array.getElem?_eq_some_iff.1 hgg).1]; exact hgg, rest⟩
theorem own_only {w w' : World} {S : Nat → Prop} {base : Nat} {e : TypeId} {size n : Nat} {v : Value} {xs : List Value} (h : w.ownsRow base e size v n xs) (hb : Only S w w') (hS : ∀ g, v.ownBlock = some g → ¬ S g) : w'.ownsRow base e size v n xs := by
 refine ⟨h.1, ?_⟩
 rcases h.2 with hn | ⟨g, cap, cur, rfl, hg0, hgg, rest⟩
 ·exact .inl hn
 ·exact .inr ⟨g, cap, cur, rfl, hg0, hb.heap hgg (hS g rfl), rest⟩
theorem own_base {w : World} {base base' : Nat} {e : TypeId} {size n : Nat} {v : Value} {xs : List Value} (h : w.ownsRow base e size v n xs) (hb : ∀ g, v.ownBlock = some g → base' ≤ g) : w.ownsRow base' e size v n xs := by
 refine ⟨h.1, ?_⟩
 rcases h.2 with hn | ⟨g, cap, cur, rfl, hg0, hgg, rest⟩
 ·exact .inl hn
 ·exact .inr ⟨g, cap, cur, rfl, hb g rfl, hgg, rest⟩
theorem bcell {W w1 : World} (hb : Below W.heap.size W w1) : (∀ b o, b < W.heap.size → w1.cell? ⟨b, o, none⟩ = W.cell? ⟨b, o, none⟩) ∧ (∀ b o, b < W.heap.size → w1.frozen? ⟨b, o, none⟩ = W.frozen? ⟨b, o, none⟩) :=
 ⟨fun b o h => hb.cell (p := ⟨b, o, none⟩) h, fun b o h => hb.frozen (p := ⟨b, o, none⟩) h⟩
def B8 (x : UInt8) : Value := .int .u8 (x.toNat : Int)
theorem B8_one (xs : List UInt8) : ∀ u ∈ xs.map B8, u.oneCell' = true := by
 intro u hu
 obtain ⟨x, _, rfl⟩ := List.mem_map.1 hu
 rfl
section
variable {P : Program} (w : World)
theorem run_append_of_nil (base : Nat) (t ty e : TypeId) (i : TypeInfo) (size : Nat) (ht : P.underlying t = some (.slice e)) (hi : P.info? e = some i)
  (v : Value) (n : Nat) (xs : List Value) (hown : w.ownsRow base e size v n xs) (c : Nat) : (Builtin.append_ #[t, t] ty #[v, .slice none 0 c]).run P w = .ok v w := by
 rcases hown.2 with ⟨rfl, rfl⟩ | ⟨g, cap, cur, rfl, _, _, hnc, _⟩
 ·simp [Builtin.append_, run_underlying ht, sizeOf, typeInfo, hi, Builtin.lenOf, Builtin.firstCells]
 ·simp [Builtin.append_, run_underlying ht, sizeOf, typeInfo, hi, Builtin.lenOf, Builtin.firstCells, hnc, storeCells]
theorem run_append_rd (base : Nat) (t ty e : TypeId) (i : TypeInfo) (z : Value) (bytes : Nat) (ht : P.underlying t = some (.slice e)) (hi : P.info? e = some i) (hz : i.zero = some z)
  (hsize : i.size = 1) (hby : i.bytes = bytes) (hzs : z.cells.size = 1)
  (v : Value) (n : Nat) (xs : List Value) (hown : w.ownsRow base e 1 v n xs) (F : Nat → Prop) (x : Value) (news : List Value) (hr : Rd w F x news) (h1 : ∀ u ∈ news, u.oneCell' = true)
  (hbytes : (n + news.length) * bytes ≤ 140737488355328) (h63 : n + news.length ≤ maxLen) (hbase : base ≤ w.heap.size) :
  ∃ v' w', (Builtin.append_ #[t, t] ty #[v, x]).run P w = .ok v' w' ∧ w'.ownsRow base e 1 v' (n + news.length) (xs ++ news) ∧ w.grownBy w' v.ownBlock ∧
   (v'.ownBlock = v.ownBlock ∨ v'.ownBlock = some w.heap.size) := by
 obtain ⟨A, m, c, rfl, hl, hc, hm, hx⟩ := hr
 subst hl
 rcases A with _ | ad
 ·have hm0 : news.length = 0 := by
   rcases Nat.eq_zero_or_pos news.length with h0 | h0
   ·exact h0
   ·obtain ⟨b, o, h, _⟩ := hx h0
    cases h
  have hn : news = [] := List.eq_nil_of_length_eq_zero hm0
  subst hn
  exact ⟨v, w, run_append_of_nil w base t ty e i 1 ht hi v n xs hown c, by simpa using hown, World.grownBy.refl w _, .inl rfl⟩
 ·have hcells : ∀ j u, news[j]? = some u → w.cell? (ad.add j) = some u := by
   intro j u hu
   have hlt : j < news.length := (List.getElem?_eq_some_iff.1 hu).1
   obtain ⟨b, o, h, _, hcc⟩ := hx (by omega)
   injection h with h
   subst h
   have := hcc j u hu
   unfold Addr.add
   split
   ·subst_vars; simpa using this
   ·simpa using this
  obtain ⟨v', w', hrun, h2, h3, _, h5⟩ := run_append_own_at (P := P) w base t ty e i z 1 bytes ht hi hz hsize hby hzs (by decide) v n xs hown ad news.length c news (by simp) hcells h1 h63 hbytes hbase
  exact ⟨v', w', hrun, h2, h3, h5⟩
theorem wp_append_rd {o : Oper} {a : Act} {K : Act → World → Prop} {Q : Exit → Act → World → Prop} (s x : Operand) (t : TypeId)
  (ho : o.op = .call { callee := .builtin .append, args := #[s, x], argTypes := #[t, t] })
  (base : Nat) (e : TypeId) (i : TypeInfo) (z : Value) (bytes : Nat) (ht : P.underlying t = some (.slice e)) (hi : P.info? e = some i) (hz : i.zero = some z)
  (hsize : i.size = 1) (hby : i.bytes = bytes) (hzs : z.cells.size = 1)
  (v : Value) (n : Nat) (xs : List Value) (hs : a.eval s = v) (hown : w.ownsRow base e 1 v n xs) (F : Nat → Prop) (vx : Value) (news : List Value) (hx : a.eval x = vx) (hr : Rd w F vx news) (h1 : ∀ u ∈ news, u.oneCell' = true)
  (hbytes : (n + news.length) * bytes ≤ 140737488355328) (h63 : n + news.length ≤ maxLen) (hbase : base ≤ w.heap.size)
  (h : ∀ v' w', w'.ownsRow base e 1 v' (n + news.length) (xs ++ news) → w.grownBy w' v.ownBlock → (v'.ownBlock = v.ownBlock ∨ v'.ownBlock = some w.heap.size) → K (a.put o.dst v') w') : o.wp P a w K Q := by
 obtain ⟨v', w', hrun, h2, h3, h4⟩ := run_append_rd (P := P) w base t o.type e i z bytes ht hi hz hsize hby hzs v n xs hown F vx news hr h1 hbytes h63 hbase
 unfold Oper.wp execOp
 simp only [ho, resolve, invoke, builtin, Sem.run_bind, Sem.run_pure, Result.andThen_ok, List.map_toArray, List.map_cons, List.map_nil, hs, hx, hrun]
 exact h v' w' h2 h3 h4
theorem wpList_append_rd {ops : Array Oper} {rest : List Oper} {o : Oper} {a : Act} {Q : Exit → Act → World → Prop} (hgd : o.guard = none) (s x : Operand) (t : TypeId)
  (ho : o.op = .call { callee := .builtin .append, args := #[s, x], argTypes := #[t, t] })
  (base : Nat) (e : TypeId) (i : TypeInfo) (z : Value) (bytes : Nat) (ht : P.underlying t = some (.slice e)) (hi : P.info? e = some i) (hz : i.zero = some z)
  (hsize : i.size = 1) (hby : i.bytes = bytes) (hzs : z.cells.size = 1)
  (v : Value) (n : Nat) (xs : List Value) (hs : a.eval s = v) (hown : w.ownsRow base e 1 v n xs) (F : Nat → Prop) (vx : Value) (news : List Value) (hx : a.eval x = vx) (hr : Rd w F vx news) (h1 : ∀ u ∈ news, u.oneCell' = true)
  (hbytes : (n + news.length) * bytes ≤ 140737488355328) (h63 : n + news.length ≤ maxLen) (hbase : base ≤ w.heap.size)
  (h : ∀ v' w', w'.ownsRow base e 1 v' (n + news.length) (xs ++ news) → w.grownBy w' v.ownBlock → (v'.ownBlock = v.ownBlock ∨ v'.ownBlock = some w.heap.size) → wpList P ops Q rest (a.put o.dst v') w') : wpList P ops Q (o :: rest) a w :=
 wpList_plain hgd fun _ hK => wp_append_rd w s x t ho base e i z bytes ht hi hz hsize hby hzs v n xs hs hown F vx news hx hr h1 hbytes h63 hbase fun v' w' h2 h3 h4 => hK _ _ (h v' w' h2 h3 h4)
end
theorem cell_alloc_any {w : World} {p : Addr} {v : Value} (h : w.cell? p = some v) (o : Obj) : (w.alloc o).cell? p = some v :=
 (World.cell?_alloc_lt w o p (World.block_lt_of_cell? w p h)).trans h
theorem blk_cell {w : World} {b : Nat} {v : Value} {t : TypeId} (h : w.heap[b]? = some (.cells #[v] t (0, 0))) : w.cell? ⟨b, 0, none⟩ = some v := by simp [World.cell?, h]
theorem blk_frozen {w : World} {b : Nat} {v : Value} {t : TypeId} (h : w.heap[b]? = some (.cells #[v] t (0, 0))) : w.frozen? ⟨b, 0, none⟩ = false := by simp [World.frozen?, h]
theorem ownsRow_slice {w : World} {base : Nat} {e : TypeId} {size : Nat} {v : Value} {n : Nat} {xs : List Value} (h : w.ownsRow base e size v n xs) : ∃ A c, v = .slice A n c := by
 rcases h.2 with ⟨rfl, rfl⟩ | ⟨g, cap, cur, rfl, _⟩
 ·exact ⟨_, _, rfl⟩
 ·exact ⟨_, _, rfl⟩
structure Rw where
 a : Int
 b : Int
 c : Int
 d : Int
 deriving DecidableEq
theorem below_drewN {B : Nat} {w w' : World} (h : Below B w w') (n : Nat) : Below B w (w'.drewN n) := ⟨h.os, h.tape, h.output, h.size, h.block⟩
def BoolP (p : Prop) (w : World) (e : Ending) (w' : World) : Prop := ∃ b : Bool, (b = true ↔ p) ∧ e = .returned (.bool b) ∧ Below w.heap.size w w'
theorem BoolP.yes {p : Prop} {w w' : World} (h : p) (hb : Below w.heap.size w w') : BoolP p w (.returned (.bool true)) w' := ⟨true, by simp [h], rfl, hb⟩
theorem BoolP.no {p : Prop} {w w' : World} (h : ¬ p) (hb : Below w.heap.size w w') : BoolP p w (.returned (.bool false)) w' := ⟨false, by simp [h], rfl, hb⟩
end Go.Proofs.YtagemonojdgbdaaGreatDoor
