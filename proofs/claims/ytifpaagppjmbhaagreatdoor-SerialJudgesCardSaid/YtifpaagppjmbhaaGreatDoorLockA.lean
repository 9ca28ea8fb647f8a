/- Words for Locks in memory: maps by what they hold at a key ('MapAt'), a Locks ('LkAt'). -/
import Derived.Test.YtifpaagppjmbhaaGreatDoorLockP
import Derived.Maps.OwnSet
import Derived.Maps.OwnOps
import Derived.DeepKeys4
import Derived.Deep.RegionHeld3
import Derived.StillTailTactics
namespace Go.Proofs.YtifpaagppjmbhaaGreatDoor
set_option maxRecDepth 100000
open Go.RowKit Go.Maps Go.WideShapes

/-- An element reads as itself. -/
def heldE (v : Value) : Option (DataW Value × List MemPlace) := some (.held v, [])
/-- One more, or another one, at a key. -/
noncomputable def updM (g : Value → Option Value) (k : Value) (d : Option Value) : Value → Option Value := fun x => @ite _ (x = k) (Classical.propDecidable _) d (g x)
theorem updM_same (g : Value → Option Value) (k : Value) (d : Option Value) : updM g k d k = d := by
  unfold updM
  exact @if_pos _ (Classical.propDecidable _) rfl _ _ _
theorem updM_other (g : Value → Option Value) {k x : Value} (d : Option Value) (h : x ≠ k) : updM g k d x = g x := by
  unfold updM
  exact @if_neg _ (Classical.propDecidable _) h _ _ _
/-- Block b is a map of at most n entries; at a key it has what g says. -/
def MapAt (P : Program) (w : World) (K : TypeId) (b n : Nat) (g : Value → Option Value) : Prop :=
  ∃ D : DataW Value, w.ownsMap P K heldE b n D ∧ ∀ v kl, keyOf P K v = some kl → Maps.has D kl = (g v).isSome ∧ ∀ z, D.atKey kl (.held z) = .held ((g v).getD z)

section
variable {P : Program} {w w' : World} {K : TypeId} {b n : Nat} {g : Value → Option Value}
theorem MapAt.lt (h : MapAt P w K b n g) : b < w.heap.size := by
  obtain ⟨D, h, _⟩ := h
  exact h.lt
theorem MapAt.made (P : Program) (w : World) (K : TypeId) : MapAt P (w.alloc (.map #[] 0)) K w.heap.size 0 (fun _ => none) :=
  ⟨_, World.ownsMap_made _ _ _ _, fun _ _ _ => ⟨rfl, fun _ => rfl⟩⟩
theorem MapAt.mono (h : MapAt P w K b n g) {n' : Nat} (hn : n ≤ n') : MapAt P w K b n' g := by
  obtain ⟨D, h, r⟩ := h
  exact ⟨D, h.mono hn, r⟩
theorem MapAt.same (h : MapAt P w K b n g) (hb : w'.heap[b]? = w.heap[b]?) : MapAt P w' K b n g := by
  obtain ⟨D, ⟨es, clock, h1, r1⟩, r⟩ := h
  exact ⟨D, ⟨es, clock, hb.trans h1, r1⟩, r⟩
theorem MapAt.only {S : Nat → Prop} (h : MapAt P w K b n g) (ho : Only S w w') (hS : ¬ S b) : MapAt P w' K b n g := h.same (ho.block b h.lt hS)
theorem MapAt.below (h : MapAt P w K b n g) (ho : Below w.heap.size w w') : MapAt P w' K b n g := h.same (ho.block b h.lt)
theorem MapAt.drew (h : MapAt P w K b n g) : MapAt P w.drew K b n g := h.same rfl
theorem MapAt.look (h : MapAt P w K b n g) (L : Keyed P K) {t e : TypeId} (ht : P.underlying t = some (.map K e)) {z : Value} (hz : (zeroValue e).run P w = .ok z w) {key : Value} {kl : Lit} (hkey : keyOf P K key = some kl) :
    (Instr.lookup t (.map (some b)) key false).run P w = .ok ((g key).getD z) w := by
  obtain ⟨D, h, r⟩ := h
  obtain ⟨v, ps, hrun, hv⟩ := h.lookup L ht hz (show heldE z = some (.held z, []) from rfl) hkey
  rw [(r key kl hkey).2 z] at hv
  unfold heldE at hv
  injection hv with hv
  injection hv with hv
  injection hv with hv
  rw [hrun, hv]
theorem MapAt.look_ok (h : MapAt P w K b n g) (L : Keyed P K) {t e : TypeId} (ht : P.underlying t = some (.map K e)) {z : Value} (hz : (zeroValue e).run P w = .ok z w) {key : Value} {kl : Lit} (hkey : keyOf P K key = some kl) :
    (Instr.lookup t (.map (some b)) key true).run P w = .ok (.tuple #[(g key).getD z, .bool (g key).isSome]) w := by
  obtain ⟨D, h, r⟩ := h
  obtain ⟨v, ps, hrun, hv⟩ := h.look_ok L ht hz (show heldE z = some (.held z, []) from rfl) hkey
  rw [(r key kl hkey).2 z] at hv
  unfold heldE at hv
  injection hv with hv
  injection hv with hv
  injection hv with hv
  rw [hrun, hv, (r key kl hkey).1]
theorem MapAt.store (h : MapAt P w K b n g) (L : Keyed P K) {t e : TypeId} (ht : P.underlying t = some (.map K e)) (hn : n < maxLen) {key val : Value} {kl : Lit} (hkey : keyOf P K key = some kl) :
    ∃ w', (Instr.mapUpdate t (.map (some b)) key val).run P w = .ok () w' ∧ MapAt P w' K b (n + 1) (updM g key (some val)) ∧ Only (fun k => k = b) w w' := by
  obtain ⟨D, h, r⟩ := h
  obtain ⟨w', hrun, h1, h2⟩ := h.store L ht hn hkey (show heldE val = some (.held val, []) from rfl)
  refine ⟨w', hrun, ⟨_, h1, fun v l hl => ?_⟩, ?_⟩
  · by_cases e : v = key
    · subst e
      have : l = kl := Option.some.inj (hl.symm.trans hkey)
      subst this
      rw [updM_same]
      exact ⟨has_put_same h.isMap (L.key hkey) _, fun z => atKey_put_same h.isMap (L.key hkey) _ _⟩
    · have hne : l ≠ kl := fun e1 => e (L.inj (by rw [← e1]; exact hl) hkey)
      rw [updM_other _ _ e, has_put_other hne]
      exact ⟨(r v l hl).1, fun z => by rw [atKey_put_other hne]; exact (r v l hl).2 z⟩
  · exact (Only.of_grownBy h2.grown).mono (fun i _ e => by injection e with e; exact e.symm)
theorem MapAt.drop (h : MapAt P w K b n g) (L : Keyed P K) {t e : TypeId} (ht : P.underlying t = some (.map K e)) {key : Value} {kl : Lit} (hkey : keyOf P K key = some kl) (ty : TypeId) :
    ∃ w', (Builtin.delete_ #[t, K] ty #[.map (some b), key]).run P w = .ok (.tuple #[]) w' ∧ MapAt P w' K b n (updM g key none) ∧ Only (fun k => k = b) w w' := by
  obtain ⟨D, h, r⟩ := h
  obtain ⟨w', hrun, h1, h2⟩ := h.drop L ht hkey ty
  refine ⟨w', hrun, ⟨_, h1, fun v l hl => ?_⟩, ?_⟩
  · by_cases e : v = key
    · subst e
      have : l = kl := Option.some.inj (hl.symm.trans hkey)
      subst this
      rw [updM_same]
      exact ⟨has_del_same, fun z => atKey_del_same _⟩
    · have hne : l ≠ kl := fun e1 => e (L.inj (by rw [← e1]; exact hl) hkey)
      rw [updM_other _ _ e, has_del_other hne]
      exact ⟨(r v l hl).1, fun z => by rw [atKey_del_other hne]; exact (r v l hl).2 z⟩
  · exact (Only.of_grownBy h2.grown).mono (fun i _ e => by injection e with e; exact e.symm)
end

section
variable {P : Program} (w : World) {ops : Array Oper} {rest : List Oper} {o : Oper} {a : Act} {Q : Exit → Act → World → Prop}
theorem wpList_look (hg : o.guard = none) (m x : Operand) (t : TypeId) (hop : o.op = Op.lookup t m x false) {K e : TypeId} (L : Keyed P K) (ht : P.underlying t = some (.map K e)) {z : Value} (hz : (zeroValue e).run P w = .ok z w) {b n : Nat} {g : Value → Option Value}
    (hm : a.eval m = .map (some b)) (hown : MapAt P w K b n g) {key : Value} {kl : Lit} (hx : a.eval x = key) (hkey : keyOf P K key = some kl) (u : Value) (hu : (g key).getD z = u)
    (hK : wpList P ops Q rest (a.put o.dst u) w) : wpList P ops Q (o :: rest) a w := by
  subst hu
  refine wpList_plain hg fun K' hK' => ?_
  have hrun := hown.look L ht hz hkey
  unfold Oper.wp
  simp [execOp, hop, hm, hx, hrun, Result.andThen]
  exact hK' _ _ hK
theorem wpList_look_ok (hg : o.guard = none) (m x : Operand) (t : TypeId) (hop : o.op = Op.lookup t m x true) {K e : TypeId} (L : Keyed P K) (ht : P.underlying t = some (.map K e)) {z : Value} (hz : (zeroValue e).run P w = .ok z w) {b n : Nat} {g : Value → Option Value}
    (hm : a.eval m = .map (some b)) (hown : MapAt P w K b n g) {key : Value} {kl : Lit} (hx : a.eval x = key) (hkey : keyOf P K key = some kl) (u : Value) (q : Bool) (hu : (g key).getD z = u) (hq : (g key).isSome = q)
    (hK : wpList P ops Q rest (a.put o.dst (.tuple #[u, .bool q])) w) : wpList P ops Q (o :: rest) a w := by
  subst hu hq
  refine wpList_plain hg fun K' hK' => ?_
  have hrun := hown.look_ok L ht hz hkey
  unfold Oper.wp
  simp [execOp, hop, hm, hx, hrun, Result.andThen]
  exact hK' _ _ hK
theorem wpList_store (hg : o.guard = none) (m x v : Operand) (t : TypeId) (hop : o.op = Op.mapUpdate t m x v) {K e : TypeId} (L : Keyed P K) (ht : P.underlying t = some (.map K e)) {b n : Nat} {g : Value → Option Value}
    (hm : a.eval m = .map (some b)) (hown : MapAt P w K b n g) (hn : n < maxLen) {key val : Value} {kl : Lit} (hx : a.eval x = key) (hv : a.eval v = val) (hkey : keyOf P K key = some kl)
    (hK : ∀ w', MapAt P w' K b (n + 1) (updM g key (some val)) → Only (fun k => k = b) w w' → wpList P ops Q rest (a.put o.dst undef) w') : wpList P ops Q (o :: rest) a w := by
  refine wpList_plain hg fun K' hK' => ?_
  obtain ⟨w', hrun, r1, r2⟩ := hown.store L ht hn (val := val) hkey
  unfold Oper.wp
  simp [execOp, hop, hm, hx, hv, hrun, Result.andThen]
  exact hK' _ _ (hK w' r1 r2)
theorem wpList_drop (hg : o.guard = none) (m x : Operand) (t K : TypeId) (hop : o.op = Op.call { callee := Callee.builtin Builtin.delete, args := #[m, x], argTypes := #[t, K] }) {e : TypeId} (L : Keyed P K) (ht : P.underlying t = some (.map K e)) {b n : Nat} {g : Value → Option Value}
    (hm : a.eval m = .map (some b)) (hown : MapAt P w K b n g) {key : Value} {kl : Lit} (hx : a.eval x = key) (hkey : keyOf P K key = some kl)
    (hK : ∀ w', MapAt P w' K b n (updM g key none) → Only (fun k => k = b) w w' → wpList P ops Q rest (a.put o.dst (.tuple #[])) w') : wpList P ops Q (o :: rest) a w := by
  refine wpList_plain hg fun K' hK' => ?_
  obtain ⟨w', hrun, r1, r2⟩ := hown.drop L ht hkey o.type
  unfold Oper.wp
  simp [execOp, hop, resolve, invoke, builtin, hm, hx, hrun, Result.andThen]
  exact hK' _ _ (hK w' r1 r2)
end

theorem takeL {P : Program} {md : Region.Mode} {l : List Oper} {Q : Exit → Act → World → Prop} {S : World → Prop} {i : Nat} {oi : Oper} {v : Value} {fuel : Nat} {listed : Array Bool} {a : Act} {w : World} (hi : l[i]? = some oi)
    (hs : Region.noSelect l.toArray = true) (hf : Region.free md l.toArray listed i = true) (hr : (Region.ready md l.toArray listed).contains i = true)
    (hQ : ∀ c a w, Q (.panic c) (a.put oi.dst v) w → Q (.panic c) a w) (hw : Region.wanted oi (yielded l.toArray a.tmps) = true) (hy : ∀ w, S w → (execOp a.eval oi).run P w = .ok (.value v) w) (hS : S w)
    (h : wpAnyH P md l.toArray Q S fuel (listed.setIfInBounds i true) (a.put oi.dst v) w) : wpAnyH P md l.toArray Q S (fuel + 1) listed a w :=
  wpAnyH_take (by simpa using hi) hs hf hr hQ (.inl ⟨hw, hy⟩) hS h
theorem consL {P : Program} {md : Region.Mode} {l : List Oper} {Q : Exit → Act → World → Prop} {S : World → Prop} {fuel : Nat} {listed : Array Bool} {a : Act} {w : World} {i : Nat} {o : Oper} {rs : List Nat} (ho : l[i]? = some o)
    (h : ∀ K' : Act → World → Prop, Shut (∀ a w, S w → (S w → wpAnyH P md l.toArray Q S fuel (listed.setIfInBounds i true) a w) → K' a w) → if Region.wanted o (yielded l.toArray a.tmps) = true then Oper.wp P o a w K' Q else K' (a.put o.dst undef) w)
    (hs : AllReadyH P md l.toArray Q S fuel listed a w rs) : AllReadyH P md l.toArray Q S fuel listed a w (i :: rs) := AllReadyH.cons (by simpa using ho) h hs
theorem box1 (W : World) (o : Obj) : Below W.heap.size W (W.alloc o) := (Below.refl _ _).alloc (Nat.le_refl _) _
theorem unbox1 {W w' : World} {o : Obj} (h : Below (W.alloc o).heap.size (W.alloc o) w') : Below W.heap.size W w' := (box1 W o).trans (h.mono (by simp))

/-! ### keys -/
def iv (i : Int) : Value := .int .i64 i
theorem lawI : Keyed Tryz.prog 3 := int_keyed Tryz.underlying3
theorem wf_i {i : Int} (h : I64 i) : (Lit.int .i64 i).wf = true := by
  unfold I64 at h
  simp [Lit.wf, IntKind.min, IntKind.max, IntKind.signed, IntKind.bits]
  omega
theorem keyI {i : Int} (h : I64 i) : keyOf Tryz.prog 3 (.int .i64 i) = some (.int .i64 i) := keyOf_int_mk Tryz.underlying3 (wf_i h)
theorem Tryz.laidOutL : laidOutB Tryz.prog = true := by kernel_rfl
theorem Tryz.pairK : (172 : TypeId) < Tryz.prog.types.size := of_decide_eq_true (by kernel_rfl)
theorem Tryz.widePair : (match Tryz.prog.underlying 172 with | some (.array _ _) | some (.struct _) => true | _ => false) = true := by rw [Tryz.underlying172]
set_option maxRecDepth 100000 in
theorem lawP : Keyed Tryz.prog 172 := Keyed.of_law (deep_law_laid Tryz.laidOutL (m := 2) (by omega) Tryz.pairK (by kernel_rfl) Tryz.widePair)
theorem Tryz.cellsPair : Tryz.prog.cellsOf 172 = 2 := by kernel_rfl
theorem Tryz.cellsInt : Tryz.prog.cellsOf 3 = 1 := by kernel_rfl
theorem Tryz.keyPair : Tryz.prog.keyType 172 = true := by kernel_rfl
def pairV (i j : Int) : Value := .agg #[.int .i64 i, .int .i64 j]
theorem keyP {i j : Int} (hi : I64 i) (hj : I64 j) : keyOf Tryz.prog 172 (.agg #[.int .i64 i, .int .i64 j]) = some (.string (keyBytes [.int .i64 i, .int .i64 j])) := by
  unfold keyOf
  rw [Tryz.underlying172]
  simp only
  have hf : (Value.agg #[.int .i64 i, .int .i64 j]).formed Tryz.prog 172 = true := by simp [Value.formed, Tryz.underlying172, Tryz.cellsPair]
  rw [Tryz.keyPair, hf]
  obtain ⟨d, hd⟩ : ∃ d, Tryz.prog.types.size + 1 = d + 1 + 1 := ⟨Tryz.prog.types.size - 1, by have h1 : (0 : Nat) < Tryz.prog.types.size := Nat.lt_of_le_of_lt (Nat.zero_le _) Tryz.pairK; omega⟩
  rw [hd]
  simp [Program.keyLits, Tryz.underlying172, Tryz.underlying3, Tryz.cellsPair, Tryz.cellsInt, Value.cells, wf_i hi, wf_i hj, List.range, List.range.loop]
theorem Tryz.zeroFoot (w : World) : (zeroValue 109).run Tryz.prog w = .ok (.agg #[.slice none 0 0]) w := by kernel_rfl
theorem Tryz.zeroInt (w : World) : (zeroValue 3).run Tryz.prog w = .ok (.int .i64 0) w := by kernel_rfl
theorem Tryz.zeroUnit (w : World) : (zeroValue 269).run Tryz.prog w = .ok (.agg #[]) w := by kernel_rfl

/-! ### a Locks -/
/-- The map of footprints. -/
def FeetM (w : World) (C : Nat → Prop) (l : List Ent) (g : Value → Option Value) : Prop :=
  (∀ i, i ∉ nums l → g (.int .i64 i) = none) ∧ ∀ e ∈ l, ∃ v, g (.int .i64 e.1) = some (.agg #[v]) ∧ ClRd w C v e.2 ∧ e.2.length ≤ 1000000
/-- The map of how many one waits for. -/
def OpenM (f : Int → Nat) (g : Value → Option Value) : Prop := ∀ i, (g (.int .i64 i)).getD (.int .i64 0) = .int .i64 (f i : Int)
/-- The set of who waits for whom. -/
def WaitsM (f : Int → Int → Bool) (g : Value → Option Value) : Prop := (∀ i j, (g (.agg #[.int .i64 i, .int .i64 j])).isSome = f i j) ∧ ∀ k u, g k = some u → u = .agg #[]
/-- What numbers in line are. -/
def LineOk (sm : Bool) (la : Int) (l : List Ent) : Prop := Rise l ∧ (∀ e ∈ l, sm = true ∧ e.1 ≤ la) ∧ (∀ e ∈ l, I64 e.1)
def lkCells (sm : Bool) (la : Int) (lv : Value) (m1 m2 m3 : Nat) : Array Value := #[.bool sm, .int .i64 la, lv, .map (some m1), .map (some m2), .map (some m3)]
/-- The parts of a Locks whose line is lv, and whose maps are at m1, m2, m3. -/
structure LkIn (w : World) (F C : Nat → Prop) (b : Nat) (sm : Bool) (la : Int) (l : List Ent) (n m1 m2 m3 : Nat) (lv : Value) (g1 g2 g3 : Value → Option Value) : Prop where
  blk : w.heap[b]? = some (.cells #[.bool sm, .int .i64 la, lv, .map (some m1), .map (some m2), .map (some m3)] 266 (0, 0))
  own : w.ownsRow 0 3 1 lv l.length ((nums l).map (Value.int .i64))
  mp1 : MapAt Tryz.prog w 3 m1 n g1
  mp2 : MapAt Tryz.prog w 3 m2 n g2
  mp3 : MapAt Tryz.prog w 172 m3 n g3
  d12 : m1 ≠ m2
  d13 : m1 ≠ m3
  d23 : m2 ≠ m3
  fb : F b
  f1 : F m1
  f2 : F m2
  f3 : F m3
  fl : ∀ k, lv.ownBlock = some k → F k
  flt : ∀ k, F k → k < w.heap.size
  clt : ∀ k, C k → k < w.heap.size ∧ ¬ F k
  line : LineOk sm la l
  feet : FeetM w C l g1
/-- A Locks: at block b, in blocks of F, whose footprints' claims lie in blocks of C. -/
def LkAt (w : World) (F C : Nat → Prop) (b : Nat) (sm : Bool) (la : Int) (l : List Ent) (n : Nat) : Prop :=
  ∃ m1 m2 m3 lv g1 g2 g3, LkIn w F C b sm la l n m1 m2 m3 lv g1 g2 g3 ∧ OpenM (opn l) g2 ∧ WaitsM (wtB l) g3

section
variable {w w' : World} {F C S : Nat → Prop} {b n m1 m2 m3 : Nat} {sm : Bool} {la : Int} {l : List Ent} {lv : Value} {g1 g2 g3 : Value → Option Value}
theorem FeetM.only (h : FeetM w C l g1) (ho : Only S w w') (hS : ∀ k, C k → ¬ S k) : FeetM w' C l g1 :=
  ⟨h.1, fun e he => let ⟨v, h1, h2, h3⟩ := h.2 e he; ⟨v, h1, RdK.only h2 ho hS, h3⟩⟩
theorem FeetM.mono (h : FeetM w C l g1) {C' : Nat → Prop} (hC : ∀ k, C k → C' k) : FeetM w C' l g1 :=
  ⟨h.1, fun e he => let ⟨v, h1, h2, h3⟩ := h.2 e he; ⟨v, h1, RdK.mono h2 hC, h3⟩⟩
theorem LkIn.only (h : LkIn w F C b sm la l n m1 m2 m3 lv g1 g2 g3) (ho : Only S w w') (hF : ∀ k, F k → ¬ S k) (hC : ∀ k, C k → ¬ S k) : LkIn w' F C b sm la l n m1 m2 m3 lv g1 g2 g3 where
  blk := ho.heap h.blk (hF _ h.fb)
  own := own_only h.own ho (fun g hg => hF _ (h.fl g hg))
  mp1 := h.mp1.only ho (hF _ h.f1)
  mp2 := h.mp2.only ho (hF _ h.f2)
  mp3 := h.mp3.only ho (hF _ h.f3)
  d12 := h.d12
  d13 := h.d13
  d23 := h.d23
  fb := h.fb
  f1 := h.f1
  f2 := h.f2
  f3 := h.f3
  fl := h.fl
  flt := fun k hk => Nat.lt_of_lt_of_le (h.flt k hk) ho.size
  clt := fun k hk => ⟨Nat.lt_of_lt_of_le (h.clt k hk).1 ho.size, (h.clt k hk).2⟩
  line := h.line
  feet := h.feet.only ho hC
theorem LkIn.below (h : LkIn w F C b sm la l n m1 m2 m3 lv g1 g2 g3) (hb : Below w.heap.size w w') : LkIn w' F C b sm la l n m1 m2 m3 lv g1 g2 g3 := h.only (Only.of_below hb (fun _ => False)) (fun _ _ => id) (fun _ _ => id)
theorem LkAt.only (h : LkAt w F C b sm la l n) (ho : Only S w w') (hF : ∀ k, F k → ¬ S k) (hC : ∀ k, C k → ¬ S k) : LkAt w' F C b sm la l n := by
  obtain ⟨m1, m2, m3, lv, g1, g2, g3, h, r⟩ := h
  exact ⟨m1, m2, m3, lv, g1, g2, g3, h.only ho hF hC, r⟩
theorem LkAt.below (h : LkAt w F C b sm la l n) (hb : Below w.heap.size w w') : LkAt w' F C b sm la l n := h.only (Only.of_below hb (fun _ => False)) (fun _ _ => id) (fun _ _ => id)
theorem LkAt.line (h : LkAt w F C b sm la l n) : LineOk sm la l := by
  obtain ⟨m1, m2, m3, lv, g1, g2, g3, h, r⟩ := h
  exact h.line
theorem LkAt.moreC (h : LkAt w F C b sm la l n) {C' : Nat → Prop} (hC : ∀ k, C k → C' k) (hC' : ∀ k, C' k → k < w.heap.size ∧ ¬ F k) : LkAt w F C' b sm la l n := by
  obtain ⟨m1, m2, m3, lv, g1, g2, g3, h, r⟩ := h
  exact ⟨m1, m2, m3, lv, g1, g2, g3, { h with clt := hC', feet := h.feet.mono hC }, r⟩
theorem LkAt.moreF (h : LkAt w F C b sm la l n) {F' : Nat → Prop} (hF : ∀ k, F k → F' k) (hlt : ∀ k, F' k → k < w.heap.size) (hC : ∀ k, C k → ¬ F' k) : LkAt w F' C b sm la l n := by
  obtain ⟨m1, m2, m3, lv, g1, g2, g3, h, r⟩ := h
  exact ⟨m1, m2, m3, lv, g1, g2, g3, { h with fb := hF _ h.fb, f1 := hF _ h.f1, f2 := hF _ h.f2, f3 := hF _ h.f3, fl := fun k hk => hF _ (h.fl k hk), flt := hlt, clt := fun k hk => ⟨(h.clt k hk).1, hC k hk⟩ }, r⟩
theorem LkAt.moren (h : LkAt w F C b sm la l n) {n' : Nat} (hn : n ≤ n') : LkAt w F C b sm la l n' := by
  obtain ⟨m1, m2, m3, lv, g1, g2, g3, h, r⟩ := h
  exact ⟨m1, m2, m3, lv, g1, g2, g3, { h with mp1 := h.mp1.mono hn, mp2 := h.mp2.mono hn, mp3 := h.mp3.mono hn }, r⟩
theorem LkAt.flt (h : LkAt w F C b sm la l n) : ∀ k, F k → k < w.heap.size := by
  obtain ⟨m1, m2, m3, lv, g1, g2, g3, h, r⟩ := h
  exact h.flt
theorem LkAt.clt (h : LkAt w F C b sm la l n) : ∀ k, C k → k < w.heap.size ∧ ¬ F k := by
  obtain ⟨m1, m2, m3, lv, g1, g2, g3, h, r⟩ := h
  exact h.clt
theorem LkAt.inF (h : LkAt w F C b sm la l n) : F b := by
  obtain ⟨m1, m2, m3, lv, g1, g2, g3, h, r⟩ := h
  exact h.fb
end

/-- A fresh row of numbers. -/
def FreshI (l : List Int) (w : World) (v : Value) (w' : World) : Prop :=
  ∃ A c, v = .slice A l.length c ∧ w'.ownsRow w.heap.size 3 1 (.slice A l.length c) l.length (l.map (Value.int .i64)) ∧ Below w.heap.size w w'
theorem FreshI.rd {l : List Int} {w w' : World} {v : Value} (h : FreshI l w v w') : Rd w' (fun _ => True) v (l.map (Value.int .i64)) := by
  obtain ⟨A, c, rfl, h, _⟩ := h
  exact Rd.of_own h (fun _ _ => trivial)

end Go.Proofs.YtifpaagppjmbhaaGreatDoor
