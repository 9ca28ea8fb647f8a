import Derived.Test.YtagemonojdgbdaaGreatDoorC02
import Derived.Test.YtagemonojdgbdaaGreatDoorProg
import Derived.Deep.SlicePairs
namespace Go.Proofs.YtagemonojdgbdaaGreatDoor
set_option maxRecDepth 100000
open Go.RowKit
def RdK (k : Nat) (w : World) (F : Nat → Prop) (v : Value) (xs : List (List Value)) : Prop :=
 ∃ (A : Option Addr) (n c : Nat), v = .slice A n c ∧ xs.length = n ∧ n ≤ c ∧ c ≤ maxLen ∧
  (0 < n → ∃ b o, A = some ⟨b, o, none⟩ ∧ F b ∧ ∀ i x, xs[i]? = some x → ∀ j u, x[j]? = some u → w.cell? ⟨b, o + (i * k + j), none⟩ = some u)
section
variable {k : Nat} {F G S : Nat → Prop} {w w' : World} {v : Value} {xs : List (List Value)}
theorem RdK.mono (h : RdK k w F v xs) (hF : ∀ k, F k → G k) : RdK k w G v xs := by
 obtain ⟨A, n, c, hv, hl, hc, hm, hx⟩ := h
 exact ⟨A, n, c, hv, hl, hc, hm, fun hn => let ⟨b, o, e, hb, hu⟩ := hx hn; ⟨b, o, e, hF b hb, hu⟩⟩
theorem RdK.only (h : RdK k w F v xs) (ho : Only S w w') (hd : ∀ k, F k → ¬ S k) : RdK k w' F v xs := by
 obtain ⟨A, n, c, hv, hl, hc, hm, hx⟩ := h
 exact ⟨A, n, c, hv, hl, hc, hm, fun hn => let ⟨b, o, e, hb, hu⟩ := hx hn; ⟨b, o, e, hb, fun i x hi j u hj => ho.cell (hu i x hi j u hj) (hd b hb)⟩⟩
theorem RdK.below (h : RdK k w F v xs) (hb : Below w.heap.size w w') : RdK k w' F v xs := h.only (Only.of_below hb fun _ => False) (fun _ _ => id)
theorem RdK.nil (k : Nat) (w : World) (F : Nat → Prop) : RdK k w F (.slice none 0 0) [] := ⟨none, 0, 0, rfl, rfl, Nat.le_refl _, by simp [maxLen], fun h => absurd h (by omega)⟩
theorem flat_at (hk : ∀ x ∈ xs, x.length = k) : ∀ (i : Nat) (x : List Value), xs[i]? = some x → ∀ (j : Nat) (u : Value), x[j]? = some u → xs.flatten[i * k + j]? = some u := by
 induction xs with
 | nil => intro i x hi; simp at hi
 | cons y ys ih =>
  intro i x hi j u hj
  have hy := hk y (by simp)
  cases i with
  | zero =>
   simp at hi
   subst hi
   rw [List.flatten_cons, List.getElem?_append_left (by have := (List.getElem?_eq_some_iff.1 hj).1; omega)]
   simpa using hj
  | succ i =>
   have h1 := ih (fun z hz => hk z (by simp [hz])) i x (by simpa using hi) j u hj
   rw [List.flatten_cons, List.getElem?_append_right (by rw [hy, Nat.succ_mul]; omega)]
   rw [← h1]
   congr 1
   rw [hy, Nat.succ_mul]; omega
theorem flat_len (hk : ∀ x ∈ xs, x.length = k) : xs.flatten.length = xs.length * k := by
 induction xs with
 | nil => simp
 | cons y ys ih =>
  rw [List.flatten_cons, List.length_append, ih (fun z hz => hk z (by simp [hz])), hk y (by simp), List.length_cons, Nat.succ_mul]; omega
theorem RdK.of_own {base : Nat} {e : TypeId} {n : Nat} (h : w.ownsRow base e k v n xs.flatten) (hk : ∀ x ∈ xs, x.length = k) (hk0 : 0 < k) (hF : ∀ g, v.ownBlock = some g → F g) : RdK k w F v xs := by
 have hl : xs.length = n := by
  have h1 := h.1
  rw [flat_len hk] at h1
  exact Nat.eq_of_mul_eq_mul_right hk0 h1
 rcases h.2 with ⟨rfl, rfl⟩ | ⟨g, cap, cur, rfl, _, hg, hn, hc, hs, ht⟩
 ·have : xs = [] := List.eq_nil_of_length_eq_zero hl
  subst this
  exact RdK.nil k w F
 ·refine ⟨_, _, _, rfl, hl, hn, hc, fun _ => ⟨g, 0, rfl, hF g rfl, fun i x hx j u hu => ?_⟩⟩
  have hf := flat_at hk i x hx j u hu
  have := h.cells (g := g) rfl _ u hf
  unfold Addr.add at this
  split at this
  ·rename_i h0
   rw [h0]
   simpa using this
  ·simpa using this
theorem RdK.flat (h : RdK k w F v xs) (hk : ∀ x ∈ xs, x.length = k) (hk0 : 0 < k) : ∀ A n c, v = .slice A n c → ∀ a, A = some a → ∀ j u, xs.flatten[j]? = some u → w.cell? (a.add j) = some u := by
 obtain ⟨A', n', c', hv', hl, hc, hm, hx⟩ := h
 intro A n c hv a ha j u hj
 rw [hv'] at hv
 injection hv with h1 h2 h3
 subst h1; subst h2; subst h3
 have hlt := (List.getElem?_eq_some_iff.1 hj).1
 rw [flat_len hk] at hlt
 have hpos : 0 < n' := by
  rcases Nat.eq_zero_or_pos n' with h0 | h0
  ·rw [hl, h0] at hlt; omega
  ·exact h0
 obtain ⟨b, o, e, _, hu⟩ := hx hpos
 rw [ha] at e
 injection e with e
 subst e
 have hi : j / k < xs.length := (Nat.div_lt_iff_lt_mul hk0).2 hlt
 have hx1 : xs[j / k]? = some xs[j / k] := List.getElem?_eq_getElem hi
 have hlen := hk _ (List.getElem_mem hi)
 have hm2 : j % k < k := Nat.mod_lt _ hk0
 have hx2 : (xs[j / k])[j % k]? = some ((xs[j / k])[j % k]'(by omega)) := List.getElem?_eq_getElem (by omega)
 have h3 := flat_at hk _ _ hx1 _ _ hx2
 have hjm : j / k * k + j % k = j := by rw [Nat.mul_comm]; exact Nat.div_add_mod j k
 rw [hjm, hj] at h3
 injection h3 with h3
 have h4 := hu _ _ hx1 _ _ hx2
 rw [hjm, ← h3] at h4
 unfold Addr.add
 split
 ·rename_i h0; rw [h0] at h4; simpa using h4
 ·simpa using h4
end
section
variable {P : Program} (w : World)
theorem run_append_rdk (base : Nat) (t ty e : TypeId) (i : TypeInfo) (z : Value) (k bytes : Nat) (ht : P.underlying t = some (.slice e)) (hi : P.info? e = some i) (hz : i.zero = some z)
  (hsize : i.size = k) (hby : i.bytes = bytes) (hzs : z.cells.size = k) (hk0 : 0 < k)
  (v : Value) (n : Nat) (xs : List Value) (hown : w.ownsRow base e k v n xs) (F : Nat → Prop) (x : Value) (news : List (List Value)) (hr : RdK k w F x news) (hk : ∀ y ∈ news, y.length = k) (h1 : ∀ u ∈ news.flatten, u.oneCell' = true)
  (hbytes : (n + news.length) * bytes ≤ 140737488355328) (h63 : n + news.length ≤ maxLen) (hbase : base ≤ w.heap.size) :
  ∃ v' w', (Builtin.append_ #[t, t] ty #[v, x]).run P w = .ok v' w' ∧ w'.ownsRow base e k v' (n + news.length) (xs ++ news.flatten) ∧ w.grownBy w' v.ownBlock ∧
   (v'.ownBlock = v.ownBlock ∨ v'.ownBlock = some w.heap.size) := by
 have hfl := hr.flat hk hk0
 obtain ⟨A, m, c, rfl, hl, hc, hm, hx⟩ := hr
 subst hl
 rcases A with _ | ad
 ·have hm0 : news.length = 0 := by
   rcases Nat.eq_zero_or_pos news.length with h0 | h0
   ·exact h0
   ·obtain ⟨b, o, h, _⟩ := hx h0
    cases h
  have hn : news = [] := List.eq_nil_of_length_eq_zero hm0
  subst hn
  exact ⟨v, w, run_append_of_nil w base t ty e i k ht hi v n xs hown c, by simpa using hown, World.grownBy.refl w _, .inl rfl⟩
 ·obtain ⟨v', w', hrun, h2, h3, _, h5⟩ := run_append_own_at (P := P) w base t ty e i z k bytes ht hi hz hsize hby hzs hk0 v n xs hown ad news.length c news.flatten (flat_len hk) (hfl _ _ _ rfl ad rfl) h1 h63 hbytes hbase
  exact ⟨v', w', hrun, h2, h3, h5⟩
theorem wpList_append_rdk {ops : Array Oper} {rest : List Oper} {o : Oper} {a : Act} {Q : Exit → Act → World → Prop} (hgd : o.guard = none) (s x : Operand) (t : TypeId)
  (ho : o.op = .call { callee := .builtin .append, args := #[s, x], argTypes := #[t, t] })
  (base : Nat) (e : TypeId) (i : TypeInfo) (z : Value) (k bytes : Nat) (ht : P.underlying t = some (.slice e)) (hi : P.info? e = some i) (hz : i.zero = some z)
  (hsize : i.size = k) (hby : i.bytes = bytes) (hzs : z.cells.size = k) (hk0 : 0 < k)
  (v : Value) (n : Nat) (xs : List Value) (hs : a.eval s = v) (hown : w.ownsRow base e k v n xs) (F : Nat → Prop) (vx : Value) (news : List (List Value)) (hx : a.eval x = vx) (hr : RdK k w F vx news) (hk : ∀ y ∈ news, y.length = k) (h1 : ∀ u ∈ news.flatten, u.oneCell' = true)
  (hbytes : (n + news.length) * bytes ≤ 140737488355328) (h63 : n + news.length ≤ maxLen) (hbase : base ≤ w.heap.size)
  (h : ∀ v' w', w'.ownsRow base e k v' (n + news.length) (xs ++ news.flatten) → w.grownBy w' v.ownBlock → (v'.ownBlock = v.ownBlock ∨ v'.ownBlock = some w.heap.size) → wpList P ops Q rest (a.put o.dst v') w') : wpList P ops Q (o :: rest) a w :=
 wpList_plain hgd fun K hK => by
  obtain ⟨v', w', hrun, h2, h3, h4⟩ := run_append_rdk (P := P) w base t o.type e i z k bytes ht hi hz hsize hby hzs hk0 v n xs hown F vx news hr hk h1 hbytes h63 hbase
  unfold Oper.wp execOp
  simp only [ho, resolve, invoke, builtin, Sem.run_bind, Sem.run_pure, Result.andThen_ok, List.map_toArray, List.map_cons, List.map_nil, hs, hx, hrun]
  exact hK _ _ (h v' w' h2 h3 h4)
end
structure Cl where
 wr : Bool
 col : Int
 key : List UInt8
 lo : Int
 hi : Int
deriving DecidableEq
def Cl.cells (c : Cl) : List Value := [.bool c.wr, .int .i64 c.col, .string ⟨c.key.toArray⟩, .int .i64 c.lo, .int .i64 c.hi]
def Cl.val (c : Cl) : Value := .agg #[.bool c.wr, .int .i64 c.col, .string ⟨c.key.toArray⟩, .int .i64 c.lo, .int .i64 c.hi]
def I64 (n : Int) : Prop := -9223372036854775808 ≤ n ∧ n ≤ 9223372036854775807
def Cl.fits (c : Cl) : Prop := I64 c.col ∧ I64 c.lo ∧ I64 c.hi ∧ c.key.length ≤ maxLen
def spc (x : Int × Int) : List Value := [.int .i64 x.1, .int .i64 x.2]
def SpRd (w : World) (F : Nat → Prop) (v : Value) (l : List (Int × Int)) : Prop := RdK 2 w F v (l.map spc)
def ClRd (w : World) (F : Nat → Prop) (v : Value) (l : List Cl) : Prop := RdK 5 w F v (l.map Cl.cells)
theorem spc_len (l : List (Int × Int)) : ∀ x ∈ l.map spc, x.length = 2 := by
 intro x hx
 obtain ⟨y, _, rfl⟩ := List.mem_map.1 hx
 rfl
theorem cl_len (l : List Cl) : ∀ x ∈ l.map Cl.cells, x.length = 5 := by
 intro x hx
 obtain ⟨y, _, rfl⟩ := List.mem_map.1 hx
 rfl
theorem SpRd.at_ {w : World} {F : Nat → Prop} {A : Option Addr} {n c : Nat} {l : List (Int × Int)} (h : SpRd w F (.slice A n c) l) {k : Nat} {x : Int × Int} (hk : l[k]? = some x) :
  ∃ b o, A = some ⟨b, o, none⟩ ∧ F b ∧ w.cell? ⟨b, o + k * 2, none⟩ = some (.int .i64 x.1) ∧ w.cell? ⟨b, o + k * 2 + 1, none⟩ = some (.int .i64 x.2) := by
 obtain ⟨A', n', c', hv, hl, _, _, hx⟩ := h
 injection hv with h1 h2 h3
 subst h1 h2 h3
 have hlt := (List.getElem?_eq_some_iff.1 hk).1
 obtain ⟨b, o, rfl, hF, hc⟩ := hx (by simp at hl; omega)
 exact ⟨b, o, rfl, hF, hc k (spc x) (by simp [hk]) 0 _ rfl, hc k (spc x) (by simp [hk]) 1 _ rfl⟩
theorem ClRd.at_ {w : World} {F : Nat → Prop} {A : Option Addr} {n c : Nat} {l : List Cl} (h : ClRd w F (.slice A n c) l) {k : Nat} {x : Cl} (hk : l[k]? = some x) :
  ∃ b o, A = some ⟨b, o, none⟩ ∧ F b ∧ w.cell? ⟨b, o + k * 5, none⟩ = some (.bool x.wr) ∧ w.cell? ⟨b, o + k * 5 + 1, none⟩ = some (.int .i64 x.col) ∧ w.cell? ⟨b, o + k * 5 + 2, none⟩ = some (.string ⟨x.key.toArray⟩) ∧
   w.cell? ⟨b, o + k * 5 + 3, none⟩ = some (.int .i64 x.lo) ∧ w.cell? ⟨b, o + k * 5 + 4, none⟩ = some (.int .i64 x.hi) := by
 obtain ⟨A', n', c', hv, hl, _, _, hx⟩ := h
 injection hv with h1 h2 h3
 subst h1 h2 h3
 have hlt := (List.getElem?_eq_some_iff.1 hk).1
 obtain ⟨b, o, rfl, hF, hc⟩ := hx (by simp at hl; omega)
 have hx' : (l.map Cl.cells)[k]? = some x.cells := by simp [hk]
 exact ⟨b, o, rfl, hF, hc k _ hx' 0 _ rfl, hc k _ hx' 1 _ rfl, hc k _ hx' 2 _ rfl, hc k _ hx' 3 _ rfl, hc k _ hx' 4 _ rfl⟩
theorem SpRd.slice {w : World} {F : Nat → Prop} {v : Value} {l : List (Int × Int)} (h : SpRd w F v l) : ∃ A c, v = .slice A l.length c ∧ l.length ≤ c ∧ c ≤ maxLen := by
 obtain ⟨A', n', c', hv, hl, h1, h2, _⟩ := h
 simp at hl
 subst hl
 exact ⟨A', c', hv, h1, h2⟩
theorem ClRd.slice {w : World} {F : Nat → Prop} {v : Value} {l : List Cl} (h : ClRd w F v l) : ∃ A c, v = .slice A l.length c ∧ l.length ≤ c ∧ c ≤ maxLen := by
 obtain ⟨A', n', c', hv, hl, h1, h2, _⟩ := h
 simp at hl
 subst hl
 exact ⟨A', c', hv, h1, h2⟩
theorem cl_one (l : List Cl) : ∀ u ∈ (l.map Cl.cells).flatten, u.oneCell' = true := by
 intro u hu
 obtain ⟨x, hx, hu⟩ := List.mem_flatten.1 hu
 obtain ⟨c, _, rfl⟩ := List.mem_map.1 hx
 simp [Cl.cells] at hu
 rcases hu with rfl | rfl | rfl | rfl | rfl <;> rfl
def keyErr (k : List UInt8) : Int := if k.length < 1 ∨ 16 < k.length then 13 else 0
def chk (c : Cl) : Int :=
 if c.col < -1 ∨ 4 ≤ c.col then 10
 else if 0 ≤ c.col then (if c.key ≠ [] ∨ c.hi < c.lo then 10 else 0)
 else if c.lo ≠ 0 ∨ c.hi ≠ 0 then 10
 else keyErr c.key
theorem keyCheck_ok (w : World) (k : List UInt8) :
  Calls Tryz.prog 72 #[.string ⟨k.toArray⟩] w fun e w' => e = .returned (.int .i64 (keyErr k)) ∧ w = w' := by
 unfold keyErr
 by_cases h1 : k.length < 1
 ·rw [if_pos (.inl h1)]
  go_enter Tryz.func72, Tryz.ntmps72
  go_wp2_with fail
  go_ret
  exact ⟨rfl, rfl⟩
 ·by_cases h2 : 16 < k.length
  ·rw [if_pos (.inr h2)]
   go_enter Tryz.func72, Tryz.ntmps72
   go_wp2_with fail
   go_ret
   exact ⟨rfl, rfl⟩
  ·rw [if_neg (by omega)]
   go_enter Tryz.func72, Tryz.ntmps72
   go_wp2_with fail
   go_ret
   exact ⟨rfl, rfl⟩
theorem check_ok (w : World) (c : Cl) :
  Calls Tryz.prog 67 #[c.val] w fun e w' => e = .returned (.int .i64 (chk c)) ∧ Below w.heap.size w w' := by
 obtain ⟨wr, col, key, lo, hi⟩ := c
 unfold Cl.val chk
 simp only
 by_cases h1 : col < -1 ∨ 4 ≤ col
 ·rw [if_pos h1]
  rcases h1 with h1 | h1
  ·go_enter Tryz.func67, Tryz.ntmps67
   go_wp2_with fail
   go_ret
   exact ⟨rfl, (Below.refl _ _).alloc (Nat.le_refl _) _⟩
  ·go_enter Tryz.func67, Tryz.ntmps67
   go_wp2_with fail
   go_ret
   exact ⟨rfl, (Below.refl _ _).alloc (Nat.le_refl _) _⟩
 ·rw [if_neg h1]
  by_cases h2 : 0 ≤ col
  ·rw [if_pos h2]
   have h3 : ¬ col < -1 := fun h => h1 (.inl h)
   have h4 : ¬ 4 ≤ col := fun h => h1 (.inr h)
   clear h1
   by_cases h5 : key ≠ []
   ·rw [if_pos (.inl h5)]
    go_enter Tryz.func67, Tryz.ntmps67
    go_wp2_with fail
    go_ret
    exact ⟨rfl, (Below.refl _ _).alloc (Nat.le_refl _) _⟩
   ·have h6 : key = [] := by simpa using h5
    subst h6
    clear h5
    by_cases h7 : hi < lo
    ·rw [if_pos (.inr h7)]
     go_enter Tryz.func67, Tryz.ntmps67
     go_wp2_with fail
     go_ret
     exact ⟨rfl, (Below.refl _ _).alloc (Nat.le_refl _) _⟩
    ·rw [if_neg (by simpa using h7)]
     go_enter Tryz.func67, Tryz.ntmps67
     go_wp2_with fail
     go_ret
     exact ⟨rfl, (Below.refl _ _).alloc (Nat.le_refl _) _⟩
  ·rw [if_neg h2]
   have h3 : ¬ col < -1 := fun h => h1 (.inl h)
   have h4 : ¬ 4 ≤ col := fun h => h1 (.inr h)
   clear h1
   by_cases h5 : lo ≠ 0
   ·rw [if_pos (.inl h5)]
    go_enter Tryz.func67, Tryz.ntmps67
    go_wp2_with fail
    go_ret
    exact ⟨rfl, (Below.refl _ _).alloc (Nat.le_refl _) _⟩
   ·by_cases h6 : hi ≠ 0
    ·rw [if_pos (.inr h6)]
     go_enter Tryz.func67, Tryz.ntmps67
     go_wp2_with fail
     go_ret
     exact ⟨rfl, (Below.refl _ _).alloc (Nat.le_refl _) _⟩
    ·rw [if_neg (by simp at h5 h6; simp [h5, h6])]
     have hlo : lo = 0 := by simpa using h5
     have hhi : hi = 0 := by simpa using h6
     subst hlo hhi
     clear h5 h6
     go_enter Tryz.func67, Tryz.ntmps67
     go_wp2_with fail
     refine (keyCheck_ok _ _).mono ?_
     rintro e w' ⟨rfl, rfl⟩
     go_wp2_with fail
     go_ret
     exact ⟨rfl, (Below.refl _ _).alloc (Nat.le_refl _) _⟩
def meetS (a b : Int × Int) : Option (Int × Int) := if a.2 < b.1 ∧ a.2 + 1 < b.1 then none else some (a.1, max a.2 b.2)
def MeetP (a b : Int × Int) (w : World) (e : Ending) (w' : World) : Prop :=
 Below w.heap.size w w' ∧ match meetS a b with
  | none => e = .returned (.tuple #[.agg #[.int .i64 0, .int .i64 0], .bool false])
  | some x => e = .returned (.tuple #[.agg #[.int .i64 x.1, .int .i64 x.2], .bool true])
theorem results_cell_row2 {P : Program} {fn : Func} {p u : Tmp} {ty : TypeId} (h : fn.results = #[.cell p ty, .tmp u]) (tmps : Array Value) (w : World) (g : Nat) (t : TypeId) (cs : Array Value) (fr : Nat × Nat) (d : TypeDesc)
  (hp : tmps.getD p undef = .pointer (some ⟨g, 0, none⟩)) (hg : w.heap[g]? = some (.cells cs t fr))
  (hu : P.underlying ty = some d) (hd : (match d with | .struct _ | .array _ _ => true | _ => false) = true) (hi : (P.info? ty).map (·.size) = some cs.size) :
  (results fn tmps).run P w = .ok (.tuple #[.agg cs, tmps.getD u undef]) w := by
 have hp' : tmps[p]?.getD undef = .pointer (some ⟨g, 0, none⟩) := by simpa using hp
 rw [results_cell_tmp h]
 simp [hp', asAddr, run_loadVar_row w g t ty cs fr d hg hu hd hi]
theorem below3 (w : World) (a b c : Obj) : Below w.heap.size w (((w.alloc a).alloc b).alloc c) :=
 (((Below.refl _ _).alloc (Nat.le_refl _) _).alloc (by simp) _).alloc (by simp; omega) _
theorem new3 (w : World) (a b c : Obj) : (((w.alloc a).alloc b).alloc c).heap[w.heap.size + 1 + 1]? = some c := by
 have : w.heap.size + 1 + 1 = ((w.alloc a).alloc b).heap.size := by simp
 rw [this]
 exact heap_alloc_new _ _
theorem meet_ok (w : World) (a b : Int × Int) (ha : I64 a.2) (hb : I64 b.1) :
  Calls Tryz.prog 120 #[.agg #[.int .i64 a.1, .int .i64 a.2], .agg #[.int .i64 b.1, .int .i64 b.2]] w (MeetP a b w) := by
 obtain ⟨a1, a2⟩ := a
 obtain ⟨b1, b2⟩ := b
 unfold MeetP meetS
 unfold I64 at ha hb
 simp only at ha hb ⊢
 obtain ⟨ha1, ha2⟩ := ha
 obtain ⟨hb1, hb2⟩ := hb
 by_cases h1 : a2 < b1
 ·by_cases h2 : a2 + 1 < b1
  ·rw [if_pos ⟨h1, h2⟩]
   go_enter Tryz.func120, Tryz.ntmps120
   go_wp2_with fail
   refine bodyPost_ret (results_cell_row2 rfl _ _ _ _ _ _ _ rfl (new3 _ _ _ _) Tryz.underlying178 rfl (by kernel_rfl)) rfl ⟨below3 _ _ _ _, rfl⟩
  ·rw [if_neg (fun h => h2 h.2)]
   rcases Int.lt_or_le a2 b2 with h | h
   ·rw [Int.max_eq_right (by omega)]
    go_enter Tryz.func120, Tryz.ntmps120
    go_wp2_with fail
    refine bodyPost_ret (results_cell_row2 rfl _ _ _ _ _ _ _ rfl (new3 _ _ _ _) Tryz.underlying178 rfl (by kernel_rfl)) rfl ⟨below3 _ _ _ _, rfl⟩
   ·rw [Int.max_eq_left (by omega)]
    go_enter Tryz.func120, Tryz.ntmps120
    go_wp2_with fail
    refine bodyPost_ret (results_cell_row2 rfl _ _ _ _ _ _ _ rfl (new3 _ _ _ _) Tryz.underlying178 rfl (by kernel_rfl)) rfl ⟨below3 _ _ _ _, rfl⟩
 ·rw [if_neg (fun h => h1 h.1)]
  rcases Int.lt_or_le a2 b2 with h | h
  ·rw [Int.max_eq_right (by omega)]
   go_enter Tryz.func120, Tryz.ntmps120
   go_wp2_with fail
   refine bodyPost_ret (results_cell_row2 rfl _ _ _ _ _ _ _ rfl (new3 _ _ _ _) Tryz.underlying178 rfl (by kernel_rfl)) rfl ⟨below3 _ _ _ _, rfl⟩
  ·rw [Int.max_eq_left (by omega)]
   go_enter Tryz.func120, Tryz.ntmps120
   go_wp2_with fail
   refine bodyPost_ret (results_cell_row2 rfl _ _ _ _ _ _ _ rfl (new3 _ _ _ _) Tryz.underlying178 rfl (by kernel_rfl)) rfl ⟨below3 _ _ _ _, rfl⟩
theorem Tryz.info28 : (Tryz.prog.info? 48).map (fun i => (i.zero, i.size, i.bytes)) = some (some (.agg #[.bool false, .int .i64 0, .string ⟨#[]⟩, .int .i64 0, .int .i64 0]), 5, 48) := by kernel_rfl
theorem Tryz.info81 : (Tryz.prog.info? 178).map (fun i => (i.zero, i.size, i.bytes)) = some (some (.agg #[.int .i64 0, .int .i64 0]), 2, 16) := by kernel_rfl
def spCl (col : Int) (wr : Bool) (x : Int × Int) : Cl := ⟨wr, col, [], x.1, x.2⟩
def FreshC (l : List Cl) (w : World) (e : Ending) (w' : World) : Prop :=
 ∃ A c, e = .returned (.slice A l.length c) ∧ w'.ownsRow w.heap.size 48 5 (.slice A l.length c) l.length (l.map Cl.cells).flatten ∧ Below w.heap.size w w'
def OfSpansR (w : World) (col : Int) (wr : Bool) (l : List (Int × Int)) (k : Nat) (v : Value) (w' : World) : Prop :=
 w'.ownsRow w.heap.size 48 5 v k (((l.take k).map (spCl col wr)).map Cl.cells).flatten ∧ Below w.heap.size w w'
theorem ofSpans_ok (w : World) (F : Nat → Prop) (col : Int) (wr_ : Bool) (v : Value) (l : List (Int × Int)) (h : SpRd w F v l) (hl : l.length ≤ 10000000) :
  Calls Tryz.prog 70 #[.int .i64 col, .bool wr_, v] w (FreshC (l.map (spCl col wr_)) w) := by
 obtain ⟨i0, hi, hz0, hz1, hz2⟩ := info_parts Tryz.info28
 obtain ⟨A, c, rfl, hnc, hcm⟩ := h.slice
 have H := Lib.hid h
 clear h
 go_enter Tryz.func70, Tryz.ntmps70
 go_wp2_with fail
 go_loopw [7, 12] (fun v i wr => ∃ k, k ≤ l.length ∧ i = .int .i64 (k : Int) ∧ OfSpansR w col wr_ l k v wr) (fun _ i _ => l.length - (intOf i).toNat)
 case atStart => exact ⟨0, Nat.zero_le _, rfl, World.ownsRow_nil _ _ _ _, Below.refl _ _⟩
 case round =>
  obtain ⟨k, hk, rfl, hown, hbl⟩ := hrel
  by_cases hlt : k < l.length
  ·obtain ⟨x, hx⟩ : ∃ x, l[k]? = some x := ⟨_, List.getElem?_eq_getElem hlt⟩
   obtain ⟨b, o, rfl, hF, c0, c1⟩ := H.out.at_ hx
   have hb : b < w.heap.size := World.block_lt_of_cell? w _ c0
   have c0' := (hbl.cell (p := ⟨b, o + k * 2, none⟩) hb).trans c0
   have c1' := (hbl.cell (p := ⟨b, o + k * 2 + 1, none⟩) hb).trans c1
   have HB := Lib.hid hx
   have hb2 : Below wr.heap.size wr ((wr.alloc (.cells #[.int .i64 x.1, .int .i64 x.2] 178)).alloc (.cells #[.bool wr_, .int .i64 col, .string ⟨#[]⟩, .int .i64 x.1, .int .i64 x.2] 48)) := ((Below.refl _ _).alloc (Nat.le_refl _) _).alloc (by simp) _
   have hown' := own_below hown hb2
   have hnews := World.news_of_block (heap_alloc_new (wr.alloc (.cells #[.int .i64 x.1, .int .i64 x.2] 178)) (.cells #[.bool wr_, .int .i64 col, .string ⟨#[]⟩, .int .i64 x.1, .int .i64 x.2] 48))
   rw [show (wr.alloc (.cells #[.int .i64 x.1, .int .i64 x.2] 178)).heap.size = wr.heap.size + 1 by simp] at hnews
   have HOWN := Lib.hid (And.intro hown' (And.intro hnews (And.intro hown hb2)))
   have HBL := Lib.hid hbl
   have HHI := Lib.hid hi
   clear hx c0 c1 hown hown' hnews hb2 hbl
   go_wp2_with (at_builtin; go_loud (refine wpList_append_lies _ rfl _ _ 37 rfl w.heap.size 48 i0 _ 5 48 Tryz.underlying37 HHI.out hz0 hz1 hz2 rfl (by decide) u7 k _ rfl HOWN.out.1 ⟨wr.heap.size + 1, 0, none⟩ 1 1 [.bool wr_, .int .i64 col, .string ⟨#[]⟩, .int .i64 x.1, .int .i64 x.2] rfl rfl HOWN.out.2.1 (by simp [Value.oneCell']) (by decide) (by unfold maxLen; omega) (by omega) (by have := HBL.out.size; simp; omega) _ rfl ?_); intro g cap w1 hown1 hgrow1 hat1 hlt1)
   go_roundw
   case rel =>
    refine ⟨k + 1, by omega, by go_num, ?_, ?_⟩
    ·have htk : l.take (k + 1) = l.take k ++ [x] := by rw [List.take_add_one, HB.out]; rfl
     rw [htk]
     simpa [spCl, Cl.cells] using hown1
    ·have hs := HBL.out.size
     exact ((HBL.out.alloc (by omega) _).alloc (by simp; omega) _).grown hgrow1 (by simp; omega) (fun j hj => (HOWN.out.2.2.1.lt j hj).1)
   case measure => simp [intOf]; omega
  ·have hkl : k = l.length := by omega
   subst hkl
   go_wp2_with fail
   go_ret
   rw [List.take_length] at hown
   obtain ⟨A', c', rfl⟩ := ownsRow_slice hown
   exact ⟨A', c', by simp, by simpa using hown, hbl⟩
theorem put4r {w : World} {B : Nat} {a0 a1 a2 a3 v0 v1 v2 v3 : Value} {t : TypeId} (h : w.heap[B]? = some (.cells #[a0, a1, a2, a3] t (0, 0))) :
  ((((w.setCell ⟨B, 0, none⟩ v0).setCell ⟨B, 1, none⟩ v1).setCell ⟨B, 2, none⟩ v2).setCell ⟨B, 3, none⟩ v3).heap[B]? = some (.cells #[v0, v1, v2, v3] t (0, 0)) := by
 have h0 := heap_setCell_same w B 0 _ t v0 h
 have h1 := heap_setCell_same _ B 1 _ t v1 h0
 have h2 := heap_setCell_same _ B 2 _ t v2 h1
 have h3 := heap_setCell_same _ B 3 _ t v3 h2
 simpa using h3
theorem one_new (w : World) (o : Obj) : Below w.heap.size w (w.alloc o) := (Below.refl _ _).alloc (Nat.le_refl _) _
theorem onlyM (w : World) (n M i : Nat) (v : Value) : Only (fun k => k = M) w ((w.drewN n).setCell ⟨M, i, none⟩ v) := ((Only.refl (fun k => k = M) w).drewN n).setCell (p := ⟨M, i, none⟩) (fun _ => rfl) v
theorem only1 (w : World) (M i : Nat) (v : Value) : Only (fun k => k = M) w (w.setCell ⟨M, i, none⟩ v) := (Only.refl (fun k => k = M) w).setCell (p := ⟨M, i, none⟩) (fun _ => rfl) v
theorem lt_heap {w : World} {k : Nat} {o : Obj} (h : w.heap[k]? = some o) : k < w.heap.size := (Array.getElem?_eq_some_iff.1 h).1
theorem blk4z {w : World} {R : Nat} {a b c d : Value} {t : TypeId} (k3 : w.heap[R]? = some (.cells #[a, b, c, d] t (0, 0))) :
  (w.cell? ⟨R, 0, none⟩ = some a ∧ w.cell? ⟨R, 1, none⟩ = some b ∧ w.cell? ⟨R, 2, none⟩ = some c ∧ w.cell? ⟨R, 3, none⟩ = some d) ∧ w.frozen? ⟨R, 0, none⟩ = false ∧ w.frozen? ⟨R, 1, none⟩ = false ∧ w.frozen? ⟨R, 2, none⟩ = false ∧ w.frozen? ⟨R, 3, none⟩ = false := by
 simp [World.cell?, World.frozen?, k3]
end Go.Proofs.YtagemonojdgbdaaGreatDoor
