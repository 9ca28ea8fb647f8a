import Derived.Lib.Hide
namespace Go.Proofs.YtagemonojdgbdaaGreatDoor
set_option maxRecDepth 100000
open Go.RowKit
abbrev Pr := List UInt8 × List UInt8
section
def flat : List (List Pr) -> List Pr -> List Pr
 | [], _ => []
 | k :: _, [] => k
 | k :: ks, p :: ps => k ++ p :: flat ks ps
def pre : List (List Pr) -> List Pr -> List Pr
 | k :: ks, p :: ps => k ++ p :: pre ks ps
 | _, _ => []
def post : List Pr -> List (List Pr) -> List Pr
 | [], _ => []
 | p :: ps, b => p :: flat b ps
theorem nZ (k : List Pr) (b : List (List Pr)) (y : List Pr) : flat (k :: b) y = k ++ post y b := by
 cases y <;> simp [flat, post]
theorem qh : ∀ (a : List (List Pr)) (x : List Pr) (b : List (List Pr)) (y : List Pr), a.length = x.length -> b ≠ [] -> flat (a ++ b) (x ++ y) = pre a x ++ flat b y
 | [], [], b, y, _, _ => by simp [pre]
 | k :: a, p :: x, b, y, h, hb => by
  have ih := qh a x b y (by simpa using h) hb
  simp [flat, pre, ih]
theorem qi {a : List (List Pr)} {x : List Pr} (h : a.length = x.length) (k : List Pr) (b : List (List Pr)) (y : List Pr) : flat (a ++ k :: b) (x ++ y) = pre a x ++ k ++ post y b := by
 rw [qh a x _ y h (by simp), nZ, List.append_assoc]
theorem vT {a : List (List Pr)} {x : List Pr} (h : a.length = x.length) (l r : List Pr) (m : Pr) (b : List (List Pr)) (y : List Pr) : flat (a ++ l :: r :: b) (x ++ m :: y) = pre a x ++ (l ++ m :: r) ++ post y b := by
 rw [qh a x _ _ h (by simp)]
 simp only [flat]
 rw [nZ]
 simp
theorem sU {a : List (List Pr)} {x : List Pr} (h : a.length = x.length) (k : List Pr) : flat (a ++ [k]) x = pre a x ++ k := by
 have := qi h k [] []
 simpa [post] using this
def Up (l : List Pr) : Prop := l.Pairwise fun a b => a.1 < b.1
theorem Up.left {a b : List Pr} (h : Up (a ++ b)) : Up a := (List.pairwise_append.1 h).1
theorem Up.right {a b : List Pr} (h : Up (a ++ b)) : Up b := (List.pairwise_append.1 h).2.1
theorem fw {a b c : List UInt8} (h : a < b) (h' : b < c) : a < c := List.lt_trans h h'
theorem aM (a : List UInt8) : ¬ a < a := List.lt_irrefl a
theorem lQ {a b : List UInt8} (h : a < b) : ¬ b < a := fun h' => aM a (fw h h')
theorem og {a b : List UInt8} (h : ¬ a < b) : b < a \/ b = a := by
 rcases Classical.em (b = a) with e | e
 ·exact .inr e
 ·refine .inl ?_
  have := List.not_lt.1 h
  exact Std.lt_of_le_of_ne this e
theorem uh {key : List UInt8} : ∀ {a : List (List Pr)} {x : List Pr}, Up (pre a x) -> (∀ q ∈ x, q.1 < key) -> ∀ q ∈ pre a x, q.1 < key
 | [], _, _, _, q, hq => by simp [pre] at hq
 | _ :: _, [], _, _, q, hq => by simp [pre] at hq
 | k :: a, p :: x, h, hx, q, hq => by
  simp only [pre] at h hq
  have h1 := List.pairwise_append.1 h
  have h2 := List.pairwise_cons.1 h1.2.1
  rcases List.mem_append.1 hq with hq | hq
  ·exact fw (h1.2.2 q hq p (by simp)) (hx p (by simp))
  ·rcases List.mem_cons.1 hq with rfl | hq
   ·exact hx _ (by simp)
   ·exact uh h2.2 (fun r hr => hx r (by simp [hr])) q hq
def ins (p : Pr) : List Pr -> List Pr
 | [] => [p]
 | q :: l => if q.1 < p.1 then q :: ins p l else if q.1 = p.1 then p :: l else p :: q :: l
def del (key : List UInt8) : List Pr -> List Pr
 | [] => []
 | q :: l => if q.1 < key then q :: del key l else if q.1 = key then l else q :: l
def ceil (key : List UInt8) : List Pr -> Option Pr
 | [] => none
 | q :: l => if q.1 < key then ceil key l else some q
def look (key : List UInt8) (l : List Pr) : Option (List UInt8) := match ceil key l with
 | some q => if q.1 = key then some q.2 else none
 | none => none
theorem lR {p : Pr} {a b : List Pr} (h : ∀ q ∈ a, q.1 < p.1) : ins p (a ++ b) = a ++ ins p b := by
 induction a with
 | nil => rfl
 | cons q a ih => simp [ins, h q (by simp), ih (fun r hr => h r (by simp [hr]))]
theorem vU {p : Pr} {a b : List Pr} (h : ∀ q, b.head? = some q -> p.1 < q.1) : ins p (a ++ b) = ins p a ++ b := by
 induction a with
 | nil =>
  cases b with
  | nil => rfl
  | cons q b =>
   have := h q rfl
   simp [ins, lQ this]
   exact fun e => aM p.1 (e ▸ this)
 | cons q a ih =>
  simp only [List.cons_append, ins]
  split
  ·simp [ih]
  ·split <;> simp
theorem lS {key : List UInt8} {a b : List Pr} (h : ∀ q ∈ a, q.1 < key) : del key (a ++ b) = a ++ del key b := by
 induction a with
 | nil => rfl
 | cons q a ih => simp [del, h q (by simp), ih (fun r hr => h r (by simp [hr]))]
theorem vV {key : List UInt8} {a b : List Pr} (h : ∀ q, b.head? = some q -> key < q.1) : del key (a ++ b) = del key a ++ b := by
 induction a with
 | nil =>
  cases b with
  | nil => rfl
  | cons q b =>
   have := h q rfl
   simp [del, lQ this]
   exact fun e => aM key (e ▸ this)
 | cons q a ih =>
  simp only [List.cons_append, del]
  split
  ·simp [ih]
  ·split <;> simp
theorem qj {key : List UInt8} {a b : List Pr} (h : ∀ q ∈ a, q.1 < key) : ceil key (a ++ b) = ceil key b := by
 induction a with
 | nil => rfl
 | cons q a ih => simp [ceil, h q (by simp), ih (fun r hr => h r (by simp [hr]))]
theorem vX {key : List UInt8} {a b : List Pr} : ceil key (a ++ b) = (ceil key a).or (ceil key b) := by
 induction a with
 | nil => simp [ceil]
 | cons q a ih => simp only [List.cons_append, ceil]; split <;> simp [ih]
theorem Ce {key : List UInt8} {b : List Pr} (h : ∀ q, b.head? = some q -> ¬ q.1 < key) : ceil key b = b.head? := by
 cases b with
 | nil => rfl
 | cons q b => simp [ceil, h q rfl]
end
def posOf (key : List UInt8) (ps : List Pr) : Nat := (ps.takeWhile fun p => decide (p.1 < key)).length
theorem dt (key : List UInt8) (ps : List Pr) : posOf key ps <= ps.length := by
 unfold posOf
 have h := congrArg List.length (List.takeWhile_append_dropWhile (p := fun p : Pr => decide (p.1 < key)) (l := ps))
 rw [List.length_append] at h
 omega
theorem dG (key : List UInt8) : ∀ (ps : List Pr), ∀ q ∈ ps.take (posOf key ps), q.1 < key
 | [], q, h => by simp at h
 | p :: ps, q, h => by
  unfold posOf at h
  by_cases hp : p.1 < key
  ·simp [hp] at h
   rcases h with rfl | h
   ·exact hp
   ·exact dG key ps q h
  ·simp [hp] at h
theorem jR (key : List UInt8) : ∀ (ps : List Pr) (q : Pr), ps[posOf key ps]? = some q -> ¬ q.1 < key
 | [], q, h => by simp at h
 | p :: ps, q, h => by
  unfold posOf at h
  by_cases hp : p.1 < key
  ·simp [hp] at h
   exact jR key ps q h
  ·simp [hp] at h
   subst h
   exact hp
def hit (key : List UInt8) (ps : List Pr) : Bool := match ps[posOf key ps]? with
 | some q => decide (q.1 = key)
 | none => false
theorem eG {key : List UInt8} {ps : List Pr} (h : hit key ps = true) : ∃ v, ps[posOf key ps]? = some (key, v) := by
 unfold hit at h
 split at h
 ·rename_i q hq
  simp at h
  exact ⟨q.2, by rw [hq]; subst h; rfl⟩
 ·cases h
theorem oh {key : List UInt8} {ps : List Pr} (h : hit key ps = false) {q : Pr} (hq : ps[posOf key ps]? = some q) : key < q.1 := by
 unfold hit at h
 rw [hq] at h
 simp at h
 rcases og (jR key ps q hq) with h' | h'
 ·exact h'
 ·exact absurd h'.symm h
theorem cS {α : Type} {l : List α} {i : Nat} {x : α} (h : l[i]? = some x) : l = l.take i ++ x :: l.drop (i + 1) := by
 have hi := (List.getElem?_eq_some_iff.1 h).1
 have hx := (List.getElem?_eq_some_iff.1 h).2
 rw [<- hx]
 simp
theorem fS {α : Type} (l : List α) (i : Nat) : (l.drop i).head? = l[i]? := by simp
inductive ND where
 | mk (ps : List Pr) (ks : List ND)
def ND.ps : ND -> List Pr
 | .mk ps _ => ps
def ND.ks : ND -> List ND
 | .mk _ ks => ks
@[simp] theorem ND.bF (ps : List Pr) (ks : List ND) : (ND.mk ps ks).ps = ps := rfl
@[simp] theorem ND.cg (ps : List Pr) (ks : List ND) : (ND.mk ps ks).ks = ks := rfl
def vY : ND := .mk [] []
def aS : Nat -> ND -> List Pr
 | 0, x => x.ps
 | d + 1, x => flat (x.ks.map (aS d)) x.ps
def dX : (d o lo hi : Nat) -> ND -> Prop
 | 0, _, lo, hi, x => lo <= x.ps.length /\ x.ps.length <= hi /\ x.ks = []
 | d + 1, o, lo, hi, x => lo <= x.ps.length /\ x.ps.length <= hi /\ x.ks.length = x.ps.length + 1 /\ ∀ k ∈ x.ks, dX d o (o - 1) (2 * o - 1) k
theorem dX.len {d o lo hi : Nat} {x : ND} (h : dX d o lo hi x) : lo <= x.ps.length /\ x.ps.length <= hi := by
 cases d with
 | zero => exact ⟨h.1, h.2.1⟩
 | succ d => exact ⟨h.1, h.2.1⟩
theorem dX.re {d o lo hi lo' hi' : Nat} {x : ND} (h : dX d o lo hi x) (h1 : lo' <= x.ps.length) (h2 : x.ps.length <= hi') : dX d o lo' hi' x := by
 cases d with
 | zero => exact ⟨h1, h2, h.2.2⟩
 | succ d => exact ⟨h1, h2, h.2.2⟩
theorem pT {d : Nat} {ps : List Pr} {ks : List ND} {i : Nat} {k : ND} (hk : ks[i]? = some k) (hl : ks.length = ps.length + 1) (k' : ND) :
  aS (d + 1) (.mk ps (ks.take i ++ k' :: ks.drop (i + 1))) = pre ((ks.take i).map (aS d)) (ps.take i) ++ aS d k' ++ post (ps.drop i) ((ks.drop (i + 1)).map (aS d)) := by
 have hi := (List.getElem?_eq_some_iff.1 hk).1
 have := qi (a := (ks.take i).map (aS d)) (x := ps.take i) (by simp; omega) (aS d k') ((ks.drop (i + 1)).map (aS d)) (ps.drop i)
 rw [List.take_append_drop] at this
 simpa [aS, ND.ps, ND.ks] using this
theorem iK {d : Nat} {ps : List Pr} {ks : List ND} {i : Nat} {k : ND} (hk : ks[i]? = some k) (hl : ks.length = ps.length + 1) :
  aS (d + 1) (.mk ps ks) = pre ((ks.take i).map (aS d)) (ps.take i) ++ aS d k ++ post (ps.drop i) ((ks.drop (i + 1)).map (aS d)) := by
 rw [<- pT hk hl k, <- cS hk]
theorem pU {d : Nat} {ps ps' : List Pr} {ks ks' : List ND} {i : Nat} (l m : ND) (p : Pr) (hi : i <= ps.length) (hi' : i <= ks.length) :
  aS (d + 1) (.mk (ps.take i ++ p :: ps') (ks.take i ++ l :: m :: ks')) = pre ((ks.take i).map (aS d)) (ps.take i) ++ (aS d l ++ p :: aS d m) ++ post ps' (ks'.map (aS d)) := by
 have := vT (a := (ks.take i).map (aS d)) (x := ps.take i) (by simp; omega) (aS d l) (aS d m) p (ks'.map (aS d)) ps'
 simpa [aS, ND.ps, ND.ks] using this
theorem jz {y : List Pr} {b : List (List Pr)} : (post y b).head? = y.head? := by cases y <;> rfl
theorem ui {d : Nat} {key : List UInt8} {ps : List Pr} {ks : List ND} (hl : ks.length = ps.length + 1) (hu : Up (aS (d + 1) (.mk ps ks))) {k : ND} (hk : ks[posOf key ps]? = some k) :
  ceil key (aS (d + 1) (.mk ps ks)) = (ceil key (aS d k)).or ps[posOf key ps]? := by
 rw [iK hk hl] at hu ⊢
 rw [List.append_assoc, qj (uh hu.left.left (dG key ps)), vX, Ce (b := post _ _) (by rw [jz, fS]; exact jR key ps), jz, fS]
theorem wh {d : Nat} {key : List UInt8} {ps : List Pr} {ks : List ND} (hl : ks.length = ps.length + 1) (hu : Up (aS (d + 1) (.mk ps ks))) (h : hit key ps = true) :
  ceil key (aS (d + 1) (.mk ps ks)) = ps[posOf key ps]? := by
 obtain ⟨v, hv⟩ := eG h
 have hi := (List.getElem?_eq_some_iff.1 hv).1
 obtain ⟨k, hk⟩ : ∃ k, ks[posOf key ps]? = some k := ⟨_, List.getElem?_eq_getElem (by omega)⟩
 rw [ui hl hu hk]
 rw [iK hk hl] at hu
 have h1 := (List.pairwise_append.1 hu).2.2
 have : ceil key (aS d k) = none := by
  have hall : ∀ q ∈ aS d k, q.1 < key := fun q hq => h1 q (by simp [hq]) (key, v) (by
   have hh : (post (ps.drop (posOf key ps)) ((ks.drop (posOf key ps + 1)).map (aS d))).head? = some (key, v) := by rw [jz, fS, hv]
   exact List.mem_of_head? hh)
  have := qj (b := []) hall
  simpa [ceil] using this
 rw [this]
 simp
theorem jA {key : List UInt8} : ∀ (ps : List Pr), ceil key ps = ps[posOf key ps]?
 | [] => rfl
 | p :: ps => by
  have ih := jA (key := key) ps
  unfold posOf at ih ⊢
  by_cases h : p.1 < key
  ·simp [ceil, h, ih]
  ·simp [ceil, h]
def iq : (d : Nat) -> ND -> Nat -> ND × Pr × ND
 | 0, x, o => (.mk (x.ps.take (o - 1)) [], x.ps[o - 1]?.getD ([], []), .mk (x.ps.drop o) [])
 | _ + 1, x, o => (.mk (x.ps.take (o - 1)) (x.ks.take o), x.ps[o - 1]?.getD ([], []), .mk (x.ps.drop o) (x.ks.drop o))
def jS (d : Nat) (x : ND) (i o : Nat) : ND :=
 let c := iq d (x.ks[i]?.getD vY) o
 .mk (x.ps.take i ++ c.2.1 :: x.ps.drop i) (x.ks.take i ++ c.1 :: c.2.2 :: x.ks.drop (i + 1))
theorem AP {d o : Nat} {x : ND} (ho : 1 <= o) (h : dX d o (2 * o) (2 * o) x) : aS d (iq d x o).1 ++ (iq d x o).2.1 :: aS d (iq d x o).2.2 = aS d x := by
 have hlen := h.len
 cases d with
 | zero =>
  obtain ⟨ps, ks⟩ := x
  simp only [ND.bF] at hlen
  have hx : ps[o - 1]? = some (ps[o - 1]'(by omega)) := List.getElem?_eq_getElem _
  have := cS hx
  simp only [iq, aS, ND.bF, hx, Option.getD_some]
  rw [show o - 1 + 1 = o by omega] at this
  exact this.symm
 | succ d =>
  obtain ⟨ps, ks⟩ := x
  simp only [ND.bF] at hlen
  obtain ⟨_, _, hk, _⟩ := h
  simp only [ND.bF, ND.cg] at hk hlen
  have hx : ps[o - 1]? = some (ps[o - 1]'(by omega)) := List.getElem?_eq_getElem _
  have hsp := cS hx
  rw [show o - 1 + 1 = o by omega] at hsp
  have hy : ks[o - 1]? = some (ks[o - 1]'(by omega)) := List.getElem?_eq_getElem _
  have hz : ks[o]? = some (ks[o]'(by omega)) := List.getElem?_eq_getElem _
  have PB : ks.take o = ks.take (o - 1) ++ [ks[o - 1]'(by omega)] := by
   conv => lhs; rw [show o = o - 1 + 1 by omega]
   rw [List.take_succ_eq_append_getElem (by omega)]
  have L5 : ks.drop o = ks[o]'(by omega) :: ks.drop (o + 1) := List.drop_eq_getElem_cons (by omega)
  have hkk : ks = ks.take (o - 1) ++ ks[o - 1]'(by omega) :: ks[o]'(by omega) :: ks.drop (o + 1) := by
   conv => lhs; rw [<- List.take_append_drop o ks, PB, L5]
   rw [List.append_assoc]
   rfl
  have h2 := pU (d := d) (ps := ps) (ps' := ps.drop o) (ks := ks) (ks' := ks.drop (o + 1)) (i := o - 1) (ks[o - 1]'(by omega)) (ks[o]'(by omega)) (ps[o - 1]'(by omega)) (by omega) (by omega)
  have hw : aS (d + 1) (.mk ps ks) = aS (d + 1) (.mk (ps.take (o - 1) ++ ps[o - 1]'(by omega) :: ps.drop o) (ks.take (o - 1) ++ ks[o - 1]'(by omega) :: ks[o]'(by omega) :: ks.drop (o + 1))) := by rw [<- hkk, <- hsp]
  rw [hw, h2]
  have Gu : aS (d + 1) (.mk (ps.take (o - 1)) (ks.take o)) = pre ((ks.take (o - 1)).map (aS d)) (ps.take (o - 1)) ++ aS d (ks[o - 1]'(by omega)) := by
   rw [PB]
   have := sU (a := (ks.take (o - 1)).map (aS d)) (x := ps.take (o - 1)) (by simp; omega) (aS d (ks[o - 1]'(by omega)))
   simp only [aS, ND.bF, ND.cg, List.map_append, List.map_cons, List.map_nil]
   exact this
  have hr1 : aS (d + 1) (.mk (ps.drop o) (ks.drop o)) = aS d (ks[o]'(by omega)) ++ post (ps.drop o) ((ks.drop (o + 1)).map (aS d)) := by
   rw [L5]
   simp only [aS, ND.bF, ND.cg, List.map_cons]
   exact nZ _ _ _
  simp only [iq, ND.bF, ND.cg, hx, Option.getD_some]
  rw [Gu, hr1]
  simp
theorem Gv {o : Nat} {x : List Pr} (ho : 2 <= o) (h : 2 * o <= x.length /\ x.length <= 2 * o) : (o - 1 <= (x.take (o - 1)).length /\ (x.take (o - 1)).length <= 2 * o - 1) /\ o - 1 <= (x.drop o).length /\ (x.drop o).length <= 2 * o - 1 := by
 simp only [List.length_take, List.length_drop]
 omega
theorem DM {d o : Nat} {x : ND} (ho : 2 <= o) (h : dX d o (2 * o) (2 * o) x) : dX d o (o - 1) (2 * o - 1) (iq d x o).1 /\ dX d o (o - 1) (2 * o - 1) (iq d x o).2.2 := by
 have hlen := h.len
 cases d with
 | zero =>
  obtain ⟨ps, ks⟩ := x
  have h0 := Gv ho hlen
  exact ⟨⟨h0.1.1, h0.1.2, rfl⟩, h0.2.1, h0.2.2, rfl⟩
 | succ d =>
  obtain ⟨ps, ks⟩ := x
  simp only [ND.bF] at hlen
  obtain ⟨_, _, hk, ha⟩ := h
  simp only [ND.bF, ND.cg] at hk ha hlen
  simp only [iq, dX, ND.bF, ND.cg]
  simp only [List.length_take, List.length_drop]
  exact ⟨⟨by omega, by omega, by omega, fun k hk' => ha k (List.mem_of_mem_take hk')⟩, by omega, by omega, by omega, fun k hk' => ha k (List.mem_of_mem_drop hk')⟩
def uj (x : List Pr) (p : Pr) : List Pr := if hit p.1 x then x.take (posOf p.1 x) ++ p :: x.drop (posOf p.1 x + 1) else x.take (posOf p.1 x) ++ p :: x.drop (posOf p.1 x)
def fB : (d : Nat) -> ND -> Pr -> Nat -> ND
 | 0, x, p, _ => .mk (uj x.ps p) []
 | d + 1, x, p, o =>
  let i := posOf p.1 x.ps
  if hit p.1 x.ps then .mk (x.ps.take i ++ p :: x.ps.drop (i + 1)) x.ks
  else
   let k := fB d (x.ks[i]?.getD vY) p o
   let y : ND := .mk x.ps (x.ks.take i ++ k :: x.ks.drop (i + 1))
   if 2 * o - 1 < k.ps.length then jS d y i o else y
theorem JI {p : Pr} {ps : List Pr} (h : hit p.1 ps = false) : ins p ps = ps.take (posOf p.1 ps) ++ p :: ps.drop (posOf p.1 ps) := by
 conv => lhs; rw [<- List.take_append_drop (posOf p.1 ps) ps]
 rw [lR (dG _ _)]
 have := vU (p := p) (a := []) (b := ps.drop (posOf p.1 ps)) (fun q hq => oh h (by rw [<- fS]; exact hq))
 simp [ins] at this
 rw [this]
theorem Gx {p : Pr} {ps : List Pr} (h : hit p.1 ps = true) : ins p ps = ps.take (posOf p.1 ps) ++ p :: ps.drop (posOf p.1 ps + 1) := by
 obtain ⟨v, hv⟩ := eG h
 conv => lhs; rw [cS hv]
 rw [lR (dG _ _)]
 simp [ins, aM]
theorem DN {o : Nat} (ho : 2 <= o) (p : Pr) {lo : Nat} {x : List Pr} (h : lo <= x.length /\ x.length <= 2 * o - 1) : uj x p = ins p x /\ lo <= (uj x p).length /\ (uj x p).length <= 2 * o := by
 unfold uj
 split
 ·rename_i hh
  obtain ⟨v, hv⟩ := eG hh
  have hi := (List.getElem?_eq_some_iff.1 hv).1
  refine ⟨(Gx hh).symm, ?_⟩
  simp only [List.length_append, List.length_take, List.length_cons, List.length_drop]
  omega
 ·rename_i hh
  simp only [Bool.not_eq_true] at hh
  have hi := dt p.1 x
  refine ⟨(JI hh).symm, ?_⟩
  simp only [List.length_append, List.length_take, List.length_cons, List.length_drop]
  omega
theorem wm {d o : Nat} {p : Pr} {ps : List Pr} {ks : List ND} (h : hit p.1 ps = true) : fB (d + 1) (.mk ps ks) p o = .mk (ps.take (posOf p.1 ps) ++ p :: ps.drop (posOf p.1 ps + 1)) ks := if_pos h
theorem AQ {d o : Nat} {p : Pr} {ps : List Pr} {ks : List ND} {k : ND} (h : hit p.1 ps = false) (hk : ks[posOf p.1 ps]? = some k) : fB (d + 1) (.mk ps ks) p o =
  if 2 * o - 1 < (fB d k p o).ps.length then jS d (.mk ps (ks.take (posOf p.1 ps) ++ fB d k p o :: ks.drop (posOf p.1 ps + 1))) (posOf p.1 ps) o else (.mk ps (ks.take (posOf p.1 ps) ++ fB d k p o :: ks.drop (posOf p.1 ps + 1))) := by
 have e : ks[posOf p.1 ps]?.getD vY = k := by rw [hk]; rfl
 have : fB (d + 1) (.mk ps ks) p o = (if hit p.1 ps = true then _ else _) := rfl
 rw [this, if_neg (by simp [h])]
 simp only [ND.bF, ND.cg, e]
theorem mW {o : Nat} (ho : 2 <= o) (p : Pr) : ∀ {d lo : Nat} {x : ND}, dX d o lo (2 * o - 1) x -> Up (aS d x) -> aS d (fB d x p o) = ins p (aS d x) /\ dX d o lo (2 * o) (fB d x p o)
 | 0, lo, .mk ps ks, h, hu => by
  have h0 := DN ho p ⟨h.1, h.2.1⟩
  exact ⟨h0.1, h0.2.1, h0.2.2, rfl⟩
 | d + 1, lo, .mk ps ks, h, hu => by
  obtain ⟨h1, h2, hl, ha⟩ := h
  simp only [ND.bF, ND.cg] at h1 h2 hl ha
  have hi := dt p.1 ps
  obtain ⟨k, hk⟩ : ∃ k, ks[posOf p.1 ps]? = some k := ⟨_, List.getElem?_eq_getElem (by omega)⟩
  have Uo : k ∈ ks := List.mem_of_getElem? hk
  by_cases hh : hit p.1 ps = true
  ·rw [wm hh]
   obtain ⟨v, hv⟩ := eG hh
   have hlt := (List.getElem?_eq_some_iff.1 hv).1
   constructor
   ·rw [iK hk hl] at hu ⊢
    have hd : ps.drop (posOf p.1 ps) = (p.1, v) :: ps.drop (posOf p.1 ps + 1) := by
     rw [List.drop_eq_getElem_cons hlt]
     congr 1
     have := (List.getElem?_eq_some_iff.1 hv).2
     exact this
    have hall := (List.pairwise_append.1 hu).2.2
    have hkl : ∀ q ∈ pre ((ks.take (posOf p.1 ps)).map (aS d)) (ps.take (posOf p.1 ps)) ++ aS d k, q.1 < p.1 := fun q hq => hall q hq (p.1, v) (by rw [hd]; simp [post])
    rw [lR hkl, hd]
    simp only [post, ins, aM, if_true, if_false]
    have h4 := pT (d := d) (ps := ps.take (posOf p.1 ps) ++ p :: ps.drop (posOf p.1 ps + 1)) hk (by simp; omega) k
    rw [<- cS hk] at h4
    rw [h4]
    have e1 : (ps.take (posOf p.1 ps) ++ p :: ps.drop (posOf p.1 ps + 1)).take (posOf p.1 ps) = ps.take (posOf p.1 ps) := by simp [Nat.min_eq_left hi]
    have e2 : (ps.take (posOf p.1 ps) ++ p :: ps.drop (posOf p.1 ps + 1)).drop (posOf p.1 ps) = p :: ps.drop (posOf p.1 ps + 1) := by simp [Nat.min_eq_left hi]
    rw [e1, e2]
    simp [post]
   ·refine ⟨?_, ?_, ?_, ha⟩ <;> simp [ND.bF, ND.cg] <;> omega
  ·simp only [Bool.not_eq_true] at hh
   rw [AQ hh hk]
   have PC : Up (aS d k) := by rw [iK hk hl] at hu; exact hu.left.right
   obtain ⟨e, hw⟩ := mW ho p (ha k Uo) PC
   have hins : ins p (aS (d + 1) (.mk ps ks)) = pre ((ks.take (posOf p.1 ps)).map (aS d)) (ps.take (posOf p.1 ps)) ++ aS d (fB d k p o) ++ post (ps.drop (posOf p.1 ps)) ((ks.drop (posOf p.1 ps + 1)).map (aS d)) := by
    rw [iK hk hl] at hu ⊢
    rw [List.append_assoc, lR (uh hu.left.left (dG _ _)), vU (by rw [jz, fS]; exact fun q hq => oh hh hq), e, List.append_assoc]
   by_cases ek : 2 * o - 1 < (fB d k p o).ps.length
   ·rw [if_pos ek]
    have hlen := hw.len
    have hcut := AP (by omega) (hw.re (lo' := 2 * o) (hi' := 2 * o) (by omega) (by omega))
    have hcw := DM ho (hw.re (lo' := 2 * o) (hi' := 2 * o) (by omega) (by omega))
    have PD : (ks.take (posOf p.1 ps) ++ fB d k p o :: ks.drop (posOf p.1 ps + 1))[posOf p.1 ps]? = some (fB d k p o) := by
     rw [List.getElem?_append_right (by simp; omega)]
     simp [Nat.min_eq_left (show posOf p.1 ps <= ks.length by omega)]
    simp only [jS, ND.bF, ND.cg, PD, Option.getD_some]
    have e3 : (ks.take (posOf p.1 ps) ++ fB d k p o :: ks.drop (posOf p.1 ps + 1)).take (posOf p.1 ps) = ks.take (posOf p.1 ps) := by
     simp [Nat.min_eq_left (show posOf p.1 ps <= ks.length by omega)]
    have e4 : (ks.take (posOf p.1 ps) ++ fB d k p o :: ks.drop (posOf p.1 ps + 1)).drop (posOf p.1 ps + 1) = ks.drop (posOf p.1 ps + 1) := by
     simp [List.drop_append, Nat.min_eq_left (show posOf p.1 ps <= ks.length by omega)]
    rw [e3, e4]
    constructor
    ·rw [pU _ _ _ hi (by omega), hcut, hins]
    ·refine ⟨by simp [ND.bF]; omega, by simp [ND.bF]; omega, by simp [ND.bF, ND.cg]; omega, fun z hz => ?_⟩
     simp only [ND.cg, List.mem_append, List.mem_cons] at hz
     rcases hz with hz | rfl | rfl | hz
     ·exact ha z (List.mem_of_mem_take hz)
     ·exact hcw.1
     ·exact hcw.2
     ·exact ha z (List.mem_of_mem_drop hz)
   ·rw [if_neg ek]
    have hlen := hw.len
    constructor
    ·rw [pT hk hl, hins]
    ·refine ⟨h1, by simp only [ND.bF]; omega, by simp [ND.bF, ND.cg]; omega, fun z hz => ?_⟩
     simp only [ND.cg, List.mem_append, List.mem_cons] at hz
     rcases hz with hz | rfl | hz
     ·exact ha z (List.mem_of_mem_take hz)
     ·exact hw.re hlen.1 (by omega)
     ·exact ha z (List.mem_of_mem_drop hz)
def df : Nat -> ND -> Pr -> ND -> ND × Pr × ND
 | 0, l, s, r => (.mk (l.ps.take (l.ps.length - 1)) [], l.ps[l.ps.length - 1]?.getD ([], []), .mk (s :: r.ps) [])
 | _ + 1, l, s, r => (.mk (l.ps.take (l.ps.length - 1)) (l.ks.take (l.ks.length - 1)), l.ps[l.ps.length - 1]?.getD ([], []), .mk (s :: r.ps) (l.ks[l.ks.length - 1]?.getD vY :: r.ks))
def eV : Nat -> ND -> Pr -> ND -> ND × Pr × ND
 | 0, l, s, r => (.mk (l.ps ++ [s]) [], r.ps[0]?.getD ([], []), .mk (r.ps.drop 1) [])
 | _ + 1, l, s, r => (.mk (l.ps ++ [s]) (l.ks ++ [r.ks[0]?.getD vY]), r.ps[0]?.getD ([], []), .mk (r.ps.drop 1) (r.ks.drop 1))
def jg (l : ND) (s : Pr) (r : ND) : ND := .mk (l.ps ++ s :: r.ps) (l.ks ++ r.ks)
theorem iL {α : Type} {l : List α} (h : 1 <= l.length) : l = l.take (l.length - 1) ++ [l[l.length - 1]'(by omega)] := by
 have := cS (List.getElem?_eq_getElem (l := l) (i := l.length - 1) (by omega))
 rw [show l.length - 1 + 1 = l.length by omega] at this
 simpa using this
theorem mJ {α : Type} {l : List α} (h : 1 <= l.length) : l = l[0]'(by omega) :: l.drop 1 := by
 have := cS (List.getElem?_eq_getElem (l := l) (i := 0) (by omega))
 simpa using this
theorem sV {a : List (List Pr)} {x : List Pr} (h : a.length = x.length + 1) (s : Pr) (k : List Pr) : flat (a ++ [k]) (x ++ [s]) = flat a x ++ s :: k := by
 have hl := iL (l := a) (by omega)
 generalize a.take (a.length - 1) = a1, a[a.length - 1]'(by omega) = a2 at hl
 subst hl
 have hlen : a1.length = x.length := by simpa using h
 have h1 := vT hlen a2 k s [] []
 simp only [post, List.append_nil] at h1
 rw [List.append_assoc]
 simp only [List.cons_append, List.nil_append]
 rw [h1, sU hlen]
 simp
theorem sW : ∀ {a b : List (List Pr)} {x y : List Pr}, a.length = x.length + 1 -> b ≠ [] -> ∀ s, flat (a ++ b) (x ++ s :: y) = flat a x ++ s :: flat b y
 | [k], b, [], y, _, hb, s => by
  cases b with
  | nil => exact absurd rfl hb
  | cons k' b => simp [flat]
 | k :: a, b, p :: x, y, h, hb, s => by
  have ih := sW (a := a) (b := b) (x := x) (y := y) (by simpa using h) hb s
  simp [flat, ih]
 | [], b, x, y, h, hb, s => by simp at h
 | k :: k' :: a, b, [], y, h, hb, s => by simp at h
theorem yJ {d o lo hi lo' hi' : Nat} {l r : ND} {s : Pr} (h : dX d o lo hi l) (h' : dX d o lo' hi' r) (h1 : 1 <= lo) : aS d (df d l s r).1 ++ (df d l s r).2.1 :: aS d (df d l s r).2.2 = aS d l ++ s :: aS d r := by
 have hl := h.len
 cases d with
 | zero =>
  obtain ⟨ps, ks⟩ := l
  simp only [ND.bF] at hl
  have hsp := iL (l := ps) (by omega)
  have hx : ps[ps.length - 1]? = some (ps[ps.length - 1]'(by omega)) := List.getElem?_eq_getElem _
  simp only [df, aS, ND.bF, hx, Option.getD_some]
  conv => rhs; rw [hsp]
  simp only [List.append_assoc, List.cons_append, List.nil_append]
 | succ d =>
  obtain ⟨ps, ks⟩ := l
  obtain ⟨qs, js⟩ := r
  obtain ⟨_, _, hk, ha⟩ := h
  obtain ⟨_, _, hk', ha'⟩ := h'
  simp only [ND.bF, ND.cg] at hl hk ha hk' ha'
  have hsp := iL (l := ps) (by omega)
  have hsk := iL (l := ks) (by omega)
  have hx : ps[ps.length - 1]? = some (ps[ps.length - 1]'(by omega)) := List.getElem?_eq_getElem _
  have hy : ks[ks.length - 1]? = some (ks[ks.length - 1]'(by omega)) := List.getElem?_eq_getElem _
  simp only [df, aS, ND.bF, ND.cg, hx, hy, Option.getD_some]
  generalize RN : ps.take (ps.length - 1) = p1 at *
  generalize ps[ps.length - 1]'(by omega) = p2 at *
  generalize RO : ks.take (ks.length - 1) = k1 at *
  generalize ks[ks.length - 1]'(by omega) = k2 at *
  have hlen : k1.length = p1.length + 1 := by rw [<- RN, <- RO]; simp; omega
  rw [hsp, hsk]
  have e1 := sV (a := k1.map (aS d)) (x := p1) (by simpa using hlen) p2 (aS d k2)
  simp only [List.map_append, List.map_cons, List.map_nil]
  rw [e1]
  cases js with
  | nil => simp at hk'
  | cons j js => simp [flat]
theorem Cf {d o lo hi lo' hi' : Nat} {l r : ND} {s : Pr} (h : dX d o lo hi l) (h' : dX d o lo' hi' r) (h1 : 1 <= lo') : aS d (eV d l s r).1 ++ (eV d l s r).2.1 :: aS d (eV d l s r).2.2 = aS d l ++ s :: aS d r := by
 have hl := h'.len
 cases d with
 | zero =>
  obtain ⟨ps, ks⟩ := r
  simp only [ND.bF] at hl
  have hsp := mJ (l := ps) (by omega)
  have hx : ps[0]? = some (ps[0]'(by omega)) := List.getElem?_eq_getElem _
  simp only [eV, aS, ND.bF, hx, Option.getD_some]
  conv => rhs; rw [hsp]
  simp only [List.append_assoc, List.cons_append, List.nil_append]
 | succ d =>
  obtain ⟨ps, ks⟩ := r
  obtain ⟨qs, js⟩ := l
  obtain ⟨_, _, hk, ha⟩ := h'
  obtain ⟨_, _, hk', ha'⟩ := h
  simp only [ND.bF, ND.cg] at hl hk ha hk' ha'
  have hsp := mJ (l := ps) (by omega)
  have hsk := mJ (l := ks) (by omega)
  have hx : ps[0]? = some (ps[0]'(by omega)) := List.getElem?_eq_getElem _
  have hy : ks[0]? = some (ks[0]'(by omega)) := List.getElem?_eq_getElem _
  simp only [eV, aS, ND.bF, ND.cg, hx, hy, Option.getD_some]
  generalize RN : ps.drop 1 = p1 at *
  generalize ps[0]'(by omega) = p2 at *
  generalize RO : ks.drop 1 = k1 at *
  generalize ks[0]'(by omega) = k2 at *
  rw [hsp, hsk]
  have e1 := sV (a := js.map (aS d)) (x := qs) (by simpa using hk') s (aS d k2)
  simp only [List.map_append, List.map_cons, List.map_nil]
  rw [e1]
  simp [flat]
theorem sX {d o lo hi lo' hi' : Nat} {l r : ND} {s : Pr} (h : dX d o lo hi l) (h' : dX d o lo' hi' r) : aS d (jg l s r) = aS d l ++ s :: aS d r := by
 cases d with
 | zero => simp [jg, aS]
 | succ d =>
  obtain ⟨ps, ks⟩ := l
  obtain ⟨qs, js⟩ := r
  obtain ⟨_, _, hk, _⟩ := h
  obtain ⟨_, _, hk', _⟩ := h'
  simp only [ND.bF, ND.cg] at hk hk'
  have := sW (a := ks.map (aS d)) (b := js.map (aS d)) (x := ps) (y := qs) (by simpa using hk) (by intro e; rw [List.map_eq_nil_iff] at e; rw [e] at hk'; simp at hk') s
  simpa [jg, aS] using this
theorem Cg {d o lo hi lo' hi' : Nat} {l r : ND} {s : Pr} (h : dX d o lo hi l) (h' : dX d o lo' hi' r) (h1 : 1 <= lo) : dX d o (lo - 1) (hi - 1) (df d l s r).1 /\ dX d o (lo' + 1) (hi' + 1) (df d l s r).2.2 := by
 obtain ⟨ps, ks⟩ := l
 obtain ⟨qs, js⟩ := r
 cases d with
 | zero =>
  obtain ⟨a1, a2, _⟩ := h
  obtain ⟨b1, b2, _⟩ := h'
  simp only [ND.bF] at a1 a2 b1 b2
  refine ⟨⟨?_, ?_, rfl⟩, ?_, ?_, rfl⟩ <;> simp [df] <;> omega
 | succ d =>
  obtain ⟨a1, a2, a3, a4⟩ := h
  obtain ⟨b1, b2, b3, b4⟩ := h'
  simp only [ND.bF, ND.cg] at a1 a2 a3 a4 b1 b2 b3 b4
  have hy : ks[ks.length - 1]? = some (ks[ks.length - 1]'(by omega)) := List.getElem?_eq_getElem _
  refine ⟨⟨?_, ?_, ?_, fun k hk => a4 k ?_⟩, ?_, ?_, ?_, fun k hk => ?_⟩
  ·simp [df]; omega
  ·simp [df]; omega
  ·simp [df]; omega
  ·simp only [df, ND.cg] at hk
   exact List.mem_of_mem_take hk
  ·simp [df]; omega
  ·simp [df]; omega
  ·simp [df]; omega
  ·simp only [df, ND.cg, hy, Option.getD_some] at hk
   rcases List.mem_cons.1 hk with rfl | hk
   ·exact a4 _ (List.getElem_mem _)
   ·exact b4 k hk
theorem DR {d o lo hi lo' hi' : Nat} {l r : ND} {s : Pr} (h : dX d o lo hi l) (h' : dX d o lo' hi' r) (h1 : 1 <= lo') : dX d o (lo + 1) (hi + 1) (eV d l s r).1 /\ dX d o (lo' - 1) (hi' - 1) (eV d l s r).2.2 := by
 obtain ⟨ps, ks⟩ := l
 obtain ⟨qs, js⟩ := r
 cases d with
 | zero =>
  obtain ⟨a1, a2, _⟩ := h
  obtain ⟨b1, b2, _⟩ := h'
  simp only [ND.bF] at a1 a2 b1 b2
  refine ⟨⟨?_, ?_, rfl⟩, ?_, ?_, rfl⟩ <;> simp [eV] <;> omega
 | succ d =>
  obtain ⟨a1, a2, a3, a4⟩ := h
  obtain ⟨b1, b2, b3, b4⟩ := h'
  simp only [ND.bF, ND.cg] at a1 a2 a3 a4 b1 b2 b3 b4
  have hy : js[0]? = some (js[0]'(by omega)) := List.getElem?_eq_getElem _
  refine ⟨⟨?_, ?_, ?_, fun k hk => ?_⟩, ?_, ?_, ?_, fun k hk => b4 k ?_⟩
  ·simp [eV]; omega
  ·simp [eV]; omega
  ·simp [eV]; omega
  ·simp only [eV, ND.cg, hy, Option.getD_some] at hk
   rcases List.mem_append.1 hk with hk | hk
   ·exact a4 k hk
   ·rw [List.mem_singleton] at hk
    subst hk
    exact b4 _ (List.getElem_mem _)
  ·simp [eV]; omega
  ·simp [eV]; omega
  ·simp [eV]; omega
  ·simp only [eV, ND.cg] at hk
   exact List.mem_of_mem_drop hk
theorem wu {d o lo hi lo' hi' : Nat} {l r : ND} {s : Pr} (h : dX d o lo hi l) (h' : dX d o lo' hi' r) : dX d o (lo + lo' + 1) (hi + hi' + 1) (jg l s r) := by
 obtain ⟨ps, ks⟩ := l
 obtain ⟨qs, js⟩ := r
 cases d with
 | zero =>
  obtain ⟨a1, a2, a3⟩ := h
  obtain ⟨b1, b2, b3⟩ := h'
  simp only [ND.bF, ND.cg] at a1 a2 b1 b2 a3 b3
  subst a3 b3
  refine ⟨?_, ?_, rfl⟩ <;> simp [jg] <;> omega
 | succ d =>
  obtain ⟨a1, a2, a3, a4⟩ := h
  obtain ⟨b1, b2, b3, b4⟩ := h'
  simp only [ND.bF, ND.cg] at a1 a2 a3 a4 b1 b2 b3 b4
  refine ⟨?_, ?_, ?_, fun k hk => ?_⟩
  ·simp [jg]; omega
  ·simp [jg]; omega
  ·simp [jg]; omega
  ·simp only [jg, ND.cg] at hk
   rcases List.mem_append.1 hk with hk | hk
   ·exact a4 k hk
   ·exact b4 k hk
def pI (x : ND) (i : Nat) (c : ND × Pr × ND) : ND := .mk (x.ps.take i ++ c.2.1 :: x.ps.drop (i + 1)) (x.ks.take i ++ c.1 :: c.2.2 :: x.ks.drop (i + 2))
def pJ (x : ND) (i : Nat) (k : ND) : ND := .mk (x.ps.take i ++ x.ps.drop (i + 1)) (x.ks.take i ++ k :: x.ks.drop (i + 2))
def aK (x : ND) (i : Nat) : ND := x.ks[i]?.getD vY
def fp (x : ND) (i : Nat) : Pr := x.ps[i]?.getD ([], [])
def ib (d : Nat) (x : ND) (i o : Nat) : ND :=
 if o - 1 <= (aK x i).ps.length then x
 else if 0 < i /\ o - 1 < (aK x (i - 1)).ps.length then pI x (i - 1) (df d (aK x (i - 1)) (fp x (i - 1)) (aK x i))
 else if i + 1 < x.ks.length /\ o - 1 < (aK x (i + 1)).ps.length then pI x i (eV d (aK x i) (fp x i) (aK x (i + 1)))
 else if 0 < i then pJ x (i - 1) (jg (aK x (i - 1)) (fp x (i - 1)) (aK x i))
 else pJ x i (jg (aK x i) (fp x i) (aK x (i + 1)))
theorem cD {x : ND} {i : Nat} (h : i < x.ks.length) : x.ks[i]? = some (aK x i) := by
 unfold aK
 rw [List.getElem?_eq_getElem h]
 rfl
theorem Gy {x : ND} {i : Nat} (h : i < x.ps.length) : x.ps[i]? = some (fp x i) := by
 unfold fp
 rw [List.getElem?_eq_getElem h]
 rfl
theorem cN (x : ND) : ND.mk x.ps x.ks = x := by cases x; rfl
theorem sY {α : Type} {l : List α} {i : Nat} {x y : α} (h : l[i]? = some x) (h' : l[i + 1]? = some y) : l = l.take i ++ x :: y :: l.drop (i + 2) := by
 have h1 := cS h
 have hlt := (List.getElem?_eq_some_iff.1 h').1
 have h2 : l.drop (i + 1) = y :: l.drop (i + 2) := by
  rw [List.drop_eq_getElem_cons hlt, (List.getElem?_eq_some_iff.1 h').2]
 rw [h2] at h1
 exact h1
theorem wy {d : Nat} {x : ND} {i : Nat} (hl : x.ks.length = x.ps.length + 1) (hi : i < x.ps.length) :
  aS (d + 1) x = pre ((x.ks.take i).map (aS d)) (x.ps.take i) ++ (aS d (aK x i) ++ fp x i :: aS d (aK x (i + 1))) ++ post (x.ps.drop (i + 1)) ((x.ks.drop (i + 2)).map (aS d)) := by
 have h1 := pU (d := d) (ps := x.ps) (ps' := x.ps.drop (i + 1)) (ks := x.ks) (ks' := x.ks.drop (i + 2)) (i := i) (aK x i) (aK x (i + 1)) (fp x i) (by omega) (by omega)
 rw [<- cS (Gy hi), <- sY (cD (by omega)) (cD (by omega)), cN] at h1
 exact h1
theorem wC {d : Nat} {x : ND} {i : Nat} {c : ND × Pr × ND} (hl : x.ks.length = x.ps.length + 1) (hi : i < x.ps.length) (hc : aS d c.1 ++ c.2.1 :: aS d c.2.2 = aS d (aK x i) ++ fp x i :: aS d (aK x (i + 1))) : aS (d + 1) (pI x i c) = aS (d + 1) x := by
 rw [wy hl hi, <- hc]
 exact pU (d := d) c.1 c.2.2 c.2.1 (by omega) (by omega)
theorem wD {d : Nat} {x : ND} {i : Nat} {k : ND} (hl : x.ks.length = x.ps.length + 1) (hi : i < x.ps.length) (hc : aS d k = aS d (aK x i) ++ fp x i :: aS d (aK x (i + 1))) : aS (d + 1) (pJ x i k) = aS (d + 1) x := by
 rw [wy hl hi, <- hc]
 have := qi (a := (x.ks.take i).map (aS d)) (x := x.ps.take i) (by simp; omega) (aS d k) ((x.ks.drop (i + 2)).map (aS d)) (x.ps.drop (i + 1))
 simpa [pJ, aS] using this
def ql (d o i lo hi : Nat) (x : ND) : Prop := lo <= x.ps.length /\ x.ps.length <= hi /\ x.ks.length = x.ps.length + 1 /\ i < x.ks.length /\ (∀ j, j ≠ i -> ∀ k, x.ks[j]? = some k -> dX d o (o - 1) (2 * o - 1) k) /\ dX d o (o - 2) (2 * o - 1) (aK x i)
theorem ql.kid {d o i lo hi : Nat} {x : ND} (h : ql d o i lo hi x) {j : Nat} (hj : j ≠ i) (hl : j < x.ks.length) : dX d o (o - 1) (2 * o - 1) (aK x j) := h.2.2.2.2.1 j hj _ (cD hl)
theorem yK {α : Type} {l : List α} {x : α} (h : x ∈ l) : ∃ j : Nat, l[j]? = some x := List.getElem?_of_mem h
theorem ql.all {d o i lo hi : Nat} {x : ND} (h : ql d o i lo hi x) (hk : o - 1 <= (aK x i).ps.length) : dX (d + 1) o lo hi x := by
 refine ⟨h.1, h.2.1, h.2.2.1, fun k hk' => ?_⟩
 obtain ⟨j, hj⟩ := yK hk'
 by_cases e : j = i
 ·subst e
  rw [cD (List.getElem?_eq_some_iff.1 hj).1] at hj
  injection hj with hj
  subst hj
  exact h.2.2.2.2.2.re hk h.2.2.2.2.2.len.2
 ·exact h.2.2.2.2.1 j e k hj
theorem ql.rest {d o i lo hi : Nat} {x : ND} (h : ql d o i lo hi x) {k : ND} {a b : Nat} (ha : a <= i) (hb : i < b) (hk : k ∈ x.ks.take a \/ k ∈ x.ks.drop b) : dX d o (o - 1) (2 * o - 1) k := by
 rcases hk with hk | hk
 ·obtain ⟨j, hj⟩ := yK hk
  have hlt := (List.getElem?_eq_some_iff.1 hj).1
  rw [List.length_take] at hlt
  exact h.2.2.2.2.1 j (by omega) k (by rw [List.getElem?_take] at hj; split at hj; exact hj; cases hj)
 ·obtain ⟨j, hj⟩ := yK hk
  rw [List.getElem?_drop] at hj
  exact h.2.2.2.2.1 (b + j) (by omega) k hj
theorem AU {d o i m lo hi : Nat} {x : ND} {c : ND × Pr × ND} (h : ql d o m lo hi x) (hm : m = i \/ m = i + 1) (hi' : i < x.ps.length) (h1 : dX d o (o - 1) (2 * o - 1) c.1) (h2 : dX d o (o - 1) (2 * o - 1) c.2.2) : dX (d + 1) o lo hi (pI x i c) := by
 have h' := h
 obtain ⟨a1, a2, a3, _⟩ := h
 refine ⟨by simp [pI]; omega, by simp [pI]; omega, by simp [pI]; omega, fun k hk => ?_⟩
 simp only [pI, ND.cg, List.mem_append, List.mem_cons] at hk
 rcases hk with hk | rfl | rfl | hk
 ·exact h'.rest (a := i) (b := i + 2) (by omega) (by omega) (.inl hk)
 ·exact h1
 ·exact h2
 ·exact h'.rest (a := i) (b := i + 2) (by omega) (by omega) (.inr hk)
theorem AV {d o i m lo hi : Nat} {x : ND} {c : ND} (h : ql d o m lo hi x) (hm : m = i \/ m = i + 1) (hi' : i < x.ps.length) (h1 : dX d o (o - 1) (2 * o - 1) c) : dX (d + 1) o (lo - 1) hi (pJ x i c) := by
 have h' := h
 obtain ⟨a1, a2, a3, _⟩ := h
 refine ⟨by simp [pJ]; omega, by simp [pJ]; omega, by simp [pJ]; omega, fun k hk => ?_⟩
 simp only [pJ, ND.cg, List.mem_append, List.mem_cons] at hk
 rcases hk with hk | rfl | hk
 ·exact h'.rest (a := i) (b := i + 2) (by omega) (by omega) (.inl hk)
 ·exact h1
 ·exact h'.rest (a := i) (b := i + 2) (by omega) (by omega) (.inr hk)
theorem qm {d o i lo hi : Nat} {x : ND} (ho : 2 <= o) (hlo : 1 <= lo) (h : ql d o i lo hi x) : aS (d + 1) (ib d x i o) = aS (d + 1) x /\ dX (d + 1) o (lo - 1) hi (ib d x i o) := by
 have h' := h
 obtain ⟨a1, a2, a3, a4, _, a6⟩ := h
 unfold ib
 by_cases c1 : o - 1 <= (aK x i).ps.length
 ·rw [if_pos c1]
  have := h'.all c1
  exact ⟨rfl, this.re (by omega) this.len.2⟩
 ·rw [if_neg c1]
  have w0 : dX d o (o - 2) (o - 2) (aK x i) := a6.re a6.len.1 (by omega)
  by_cases c2 : 0 < i /\ o - 1 < (aK x (i - 1)).ps.length
  ·rw [if_pos c2]
   have wl := h'.kid (j := i - 1) (by omega) (by omega)
   have IX := wl.re (lo' := o) (hi' := 2 * o - 1) (by omega) wl.len.2
   have e : i - 1 + 1 = i := by omega
   have hr := yJ (s := fp x (i - 1)) IX w0 (by omega)
   have hw := Cg (s := fp x (i - 1)) IX w0 (by omega)
   have hw1 := hw.1.re (lo' := o - 1) (hi' := 2 * o - 1) (by have := hw.1.len; omega) (by have := hw.1.len; omega)
   have hw2 := hw.2.re (lo' := o - 1) (hi' := 2 * o - 1) (by have := hw.2.len; omega) (by have := hw.2.len; omega)
   have hn := AU (i := i - 1) h' (.inr e.symm) (by omega) hw1 hw2
   exact ⟨wC a3 (by omega) (by rw [e]; exact hr), hn.re (by have := hn.len; omega) hn.len.2⟩
  ·rw [if_neg c2]
   by_cases c3 : i + 1 < x.ks.length /\ o - 1 < (aK x (i + 1)).ps.length
   ·rw [if_pos c3]
    have wr := h'.kid (j := i + 1) (by omega) (by omega)
    have wr' := wr.re (lo' := o) (hi' := 2 * o - 1) (by omega) wr.len.2
    have hr := Cf (s := fp x i) w0 wr' (by omega)
    have hw := DR (s := fp x i) w0 wr' (by omega)
    have hw1 := hw.1.re (lo' := o - 1) (hi' := 2 * o - 1) (by have := hw.1.len; omega) (by have := hw.1.len; omega)
    have hw2 := hw.2.re (lo' := o - 1) (hi' := 2 * o - 1) (by have := hw.2.len; omega) (by have := hw.2.len; omega)
    have hn := AU (i := i) h' (.inl rfl) (by omega) hw1 hw2
    exact ⟨wC a3 (by omega) hr, hn.re (by have := hn.len; omega) hn.len.2⟩
   ·rw [if_neg c3]
    by_cases c4 : 0 < i
    ·rw [if_pos c4]
     have wl := h'.kid (j := i - 1) (by omega) (by omega)
     have IX := wl.re (lo' := o - 1) (hi' := o - 1) wl.len.1 (by omega)
     have e : i - 1 + 1 = i := by omega
     have hr := sX (s := fp x (i - 1)) IX w0
     have hw := wu (s := fp x (i - 1)) IX w0
     have hw1 := hw.re (lo' := o - 1) (hi' := 2 * o - 1) (by have := hw.len; omega) (by have := hw.len; omega)
     exact ⟨wD a3 (by omega) (by rw [e]; exact hr), AV (i := i - 1) h' (.inr e.symm) (by omega) hw1⟩
    ·rw [if_neg c4]
     have wl := h'.kid (j := i + 1) (by omega) (by omega)
     have IX := wl.re (lo' := o - 1) (hi' := o - 1) wl.len.1 (by omega)
     have hr := sX (s := fp x i) w0 IX
     have hw := wu (s := fp x i) w0 IX
     have hw1 := hw.re (lo' := o - 1) (hi' := 2 * o - 1) (by have := hw.len; omega) (by have := hw.len; omega)
     exact ⟨wD a3 (by omega) hr, AV (i := i) h' (.inl rfl) (by omega) hw1⟩
def mK (x : ND) (i : Nat) (k : ND) : ND := .mk x.ps (x.ks.take i ++ k :: x.ks.drop (i + 1))
theorem AX {x : ND} {i : Nat} (hi : i < x.ks.length) (k : ND) (j : Nat) : (mK x i k).ks[j]? = if j = i then some k else x.ks[j]? := by
 simp only [mK, ND.cg]
 rw [List.getElem?_append, List.length_take, Nat.min_eq_left (by omega)]
 by_cases h1 : j < i
 ·rw [if_pos h1, if_neg (by omega), List.getElem?_take, if_pos h1]
 ·rw [if_neg h1]
  by_cases h2 : j = i
  ·subst h2; simp
  ·rw [if_neg h2, List.getElem?_cons, if_neg (by omega), List.getElem?_drop]
   congr 1; omega
theorem wH {x : ND} {i : Nat} (hi : i < x.ks.length) (k : ND) : (mK x i k).ks.length = x.ks.length := by simp [mK]; omega
theorem iH {d o i lo hi : Nat} {x k : ND} (h : dX (d + 1) o lo hi x) (hi' : i < x.ks.length) (hk : dX d o (o - 2) (2 * o - 1) k) : ql d o i lo hi (mK x i k) := by
 obtain ⟨a1, a2, a3, a4⟩ := h
 refine ⟨a1, a2, by rw [wH hi']; exact a3, by rw [wH hi']; exact hi', fun j hj k' hk' => ?_, ?_⟩
 ·rw [AX hi', if_neg hj] at hk'
  exact a4 k' (List.mem_of_getElem? hk')
 ·unfold aK
  rw [AX hi', if_pos rfl]
  exact hk
theorem qo {d i : Nat} {x k : ND} (hl : x.ks.length = x.ps.length + 1) (hi' : i < x.ks.length) : aS (d + 1) (mK x i k) = pre ((x.ks.take i).map (aS d)) (x.ps.take i) ++ aS d k ++ post (x.ps.drop i) ((x.ks.drop (i + 1)).map (aS d)) := pT (cD hi') hl k
theorem uk {d i : Nat} {x : ND} (hl : x.ks.length = x.ps.length + 1) (hi' : i < x.ks.length) : aS (d + 1) x = pre ((x.ks.take i).map (aS d)) (x.ps.take i) ++ aS d (aK x i) ++ post (x.ps.drop i) ((x.ks.drop (i + 1)).map (aS d)) := by
 have := iK (d := d) (cD hi') hl
 rw [cN] at this
 exact this
def eO : Nat -> ND -> Nat -> ND × Pr
 | 0, x, _ => (.mk (x.ps.take (x.ps.length - 1)) [], x.ps[x.ps.length - 1]?.getD ([], []))
 | d + 1, x, o =>
  let r := eO d (aK x (x.ks.length - 1)) o
  (ib d (mK x (x.ks.length - 1) r.1) (x.ks.length - 1) o, r.2)
theorem mX {o : Nat} (ho : 2 <= o) : ∀ {d lo hi : Nat} {x : ND}, dX d o lo hi x -> 1 <= lo -> aS d x = aS d (eO d x o).1 ++ [(eO d x o).2] /\ dX d o (lo - 1) hi (eO d x o).1
 | 0, lo, hi, .mk ps ks, h, h1 => by
  obtain ⟨a1, a2, a3⟩ := h
  simp only [ND.bF] at a1 a2
  have hsp := iL (l := ps) (by omega)
  have hx : ps[ps.length - 1]? = some (ps[ps.length - 1]'(by omega)) := List.getElem?_eq_getElem _
  refine ⟨?_, by simp [eO]; omega, by simp [eO]; omega, rfl⟩
  simp only [eO, aS, ND.bF, hx, Option.getD_some]
  exact hsp
 | d + 1, lo, hi, x, h, h1 => by
  have hw := h
  obtain ⟨a1, a2, a3, a4⟩ := h
  have hi' : x.ks.length - 1 < x.ks.length := by omega
  have wk := a4 _ (List.mem_of_getElem? (cD hi'))
  obtain ⟨e, w⟩ := mX ho wk (by omega)
  have hm := qm ho h1 (iH hw hi' w)
  simp only [eO]
  refine ⟨?_, hm.2⟩
  rw [hm.1, qo a3 hi', uk (i := x.ks.length - 1) a3 hi', e]
  have : x.ps.drop (x.ks.length - 1) = [] := List.drop_eq_nil_of_le (by omega)
  rw [this]
  simp [post]
def lf (x : ND) (i : Nat) (p : Pr) : ND := .mk (x.ps.take i ++ p :: x.ps.drop (i + 1)) x.ks
def jT : Nat -> ND -> List UInt8 -> Nat -> ND
 | 0, x, key, _ => if hit key x.ps then .mk (x.ps.take (posOf key x.ps) ++ x.ps.drop (posOf key x.ps + 1)) [] else x
 | d + 1, x, key, o =>
  let i := posOf key x.ps
  if hit key x.ps then
   let r := eO d (aK x i) o
   ib d (mK (lf x i r.2) i r.1) i o
  else ib d (mK x i (jT d (aK x i) key o)) i o
theorem sZ {x : ND} {key : List UInt8} {o : Nat} (h : hit key x.ps = true) : jT 0 x key o = .mk (x.ps.take (posOf key x.ps) ++ x.ps.drop (posOf key x.ps + 1)) [] := if_pos h
theorem qp {x : ND} {key : List UInt8} {o : Nat} (h : hit key x.ps = false) : jT 0 x key o = x := if_neg (by simp [h])
theorem wI {d : Nat} {x : ND} {key : List UInt8} {o : Nat} (h : hit key x.ps = true) : jT (d + 1) x key o = ib d (mK (lf x (posOf key x.ps) (eO d (aK x (posOf key x.ps)) o).2) (posOf key x.ps) (eO d (aK x (posOf key x.ps)) o).1) (posOf key x.ps) o := if_pos h
theorem um {d : Nat} {x : ND} {key : List UInt8} {o : Nat} (h : hit key x.ps = false) : jT (d + 1) x key o = ib d (mK x (posOf key x.ps) (jT d (aK x (posOf key x.ps)) key o)) (posOf key x.ps) o := if_neg (by simp [h])
theorem JJ {key : List UInt8} {ps : List Pr} (h : hit key ps = false) : del key ps = ps := by
 conv => lhs; rw [<- List.take_append_drop (posOf key ps) ps]
 rw [lS (dG _ _)]
 have := vV (key := key) (a := []) (b := ps.drop (posOf key ps)) (fun q hq => oh h (by rw [<- fS]; exact hq))
 simp [del] at this
 rw [this]
 simp
theorem Gz {key : List UInt8} {ps : List Pr} (h : hit key ps = true) : del key ps = ps.take (posOf key ps) ++ ps.drop (posOf key ps + 1) := by
 obtain ⟨v, hv⟩ := eG h
 conv => lhs; rw [cS hv]
 rw [lS (dG _ _)]
 simp [del, aM]
theorem uo {o : Nat} (ho : 2 <= o) (key : List UInt8) : ∀ {d lo hi : Nat} {x : ND}, dX d o lo hi x -> 1 <= lo \/ d = 0 -> Up (aS d x) -> aS d (jT d x key o) = del key (aS d x) /\ dX d o (lo - 1) hi (jT d x key o)
 | 0, lo, hi, .mk ps ks, h, h1, hu => by
  obtain ⟨a1, a2, a3⟩ := h
  simp only [ND.bF, ND.cg] at a1 a2 a3
  by_cases hh : hit key ps = true
  ·obtain ⟨v, hv⟩ := eG hh
   have hlt := (List.getElem?_eq_some_iff.1 hv).1
   rw [sZ (x := .mk ps ks) hh]
   simp only [ND.bF]
   exact ⟨(Gz hh).symm, by simp; omega, by simp; omega, rfl⟩
  ·simp only [Bool.not_eq_true] at hh
   rw [qp (x := .mk ps ks) hh]
   exact ⟨(JJ hh).symm, by simp only [ND.bF]; omega, by simp only [ND.bF]; omega, a3⟩
 | d + 1, lo, hi, x, h, h1, hu => by
  have h1 : 1 <= lo := by rcases h1 with h1 | h1; exact h1; cases h1
  have hw := h
  obtain ⟨a1, a2, a3, a4⟩ := h
  have hp := dt key x.ps
  have hi' : posOf key x.ps < x.ks.length := by omega
  have wk := a4 _ (List.mem_of_getElem? (cD hi'))
  by_cases hh : hit key x.ps = true
  ·obtain ⟨v, hv⟩ := eG hh
   have hlt := (List.getElem?_eq_some_iff.1 hv).1
   obtain ⟨e, w⟩ := mX ho wk (by omega)
   generalize hr : eO d (aK x (posOf key x.ps)) o = r at e w
   have OU : dX (d + 1) o lo hi (lf x (posOf key x.ps) r.2) := ⟨by simp [lf]; omega, by simp [lf]; omega, by simp [lf]; omega, a4⟩
   have hm := qm ho h1 (iH OU (i := posOf key x.ps) hi' w)
   rw [wI hh, hr]
   refine ⟨?_, hm.2⟩
   rw [hm.1, qo (x := lf x (posOf key x.ps) r.2) (by simp [lf]; omega) hi']
   rw [uk (i := posOf key x.ps) a3 hi'] at hu ⊢
   have hd : x.ps.drop (posOf key x.ps) = (key, v) :: x.ps.drop (posOf key x.ps + 1) := by
    rw [List.drop_eq_getElem_cons hlt, (List.getElem?_eq_some_iff.1 hv).2]
   have hall := (List.pairwise_append.1 hu).2.2
   have hkl : ∀ q ∈ pre ((x.ks.take (posOf key x.ps)).map (aS d)) (x.ps.take (posOf key x.ps)) ++ aS d (aK x (posOf key x.ps)), q.1 < key := fun q hq => hall q hq (key, v) (by rw [hd]; simp [post])
   rw [lS hkl, hd, e]
   have e1 : (lf x (posOf key x.ps) r.2).ps.take (posOf key x.ps) = x.ps.take (posOf key x.ps) := by simp [lf, Nat.min_eq_left hp]
   have e2 : (lf x (posOf key x.ps) r.2).ps.drop (posOf key x.ps) = r.2 :: x.ps.drop (posOf key x.ps + 1) := by simp [lf, Nat.min_eq_left hp]
   rw [e1, e2]
   simp [post, del, aM, lf]
  ·simp only [Bool.not_eq_true] at hh
   have PC : Up (aS d (aK x (posOf key x.ps))) := by rw [uk (i := posOf key x.ps) a3 hi'] at hu; exact hu.left.right
   obtain ⟨e, w⟩ := uo ho key wk (.inl (by omega)) PC
   have hm := qm ho h1 (iH hw (i := posOf key x.ps) hi' w)
   rw [um hh]
   refine ⟨?_, hm.2⟩
   rw [hm.1, qo a3 hi', e]
   rw [uk (i := posOf key x.ps) a3 hi'] at hu ⊢
   symm
   rw [List.append_assoc, lS (uh hu.left.left (dG _ _)), vV (by rw [jz, fS]; exact fun q hq => oh hh hq), List.append_assoc]
theorem fT {key : List UInt8} {l : List Pr} {p : Pr} (h : ceil key l = some p) : look key l = if p.1 = key then some p.2 else none := by
 unfold look
 rw [h]
theorem lT {key : List UInt8} {l : List Pr} (h : ceil key l = none) : look key l = none := by
 unfold look
 rw [h]
theorem om {key v : List UInt8} {ps : List Pr} (hv : ps[posOf key ps]? = some (key, v)) : look key ps = some v := by
 rw [fT (by rw [jA]; exact hv), if_pos rfl]
theorem wJ {key : List UInt8} {ps : List Pr} (h : hit key ps = false) : look key ps = none := by
 cases e : ps[posOf key ps]? with
 | none => exact lT (by rw [jA]; exact e)
 | some q =>
  rw [fT (by rw [jA]; exact e), if_neg]
  intro e1
  have := oh h e
  rw [e1] at this
  exact aM _ this
theorem qq {d : Nat} {key v : List UInt8} {ps : List Pr} {ks : List ND} (hl : ks.length = ps.length + 1) (hu : Up (aS (d + 1) (.mk ps ks))) (h : hit key ps = true) (hv : ps[posOf key ps]? = some (key, v)) : look key (aS (d + 1) (.mk ps ks)) = some v := by
 rw [fT (by rw [wh hl hu h]; exact hv), if_pos rfl]
theorem uq {d : Nat} {key : List UInt8} {ps : List Pr} {ks : List ND} {k : ND} (hl : ks.length = ps.length + 1) (hu : Up (aS (d + 1) (.mk ps ks))) (h : hit key ps = false) (hk : ks[posOf key ps]? = some k) : look key (aS (d + 1) (.mk ps ks)) = look key (aS d k) := by
 have hc := ui hl hu hk
 cases e : ceil key (aS d k) with
 | some q =>
  rw [e, Option.some_or] at hc
  rw [fT hc, fT e]
 | none =>
  rw [e, Option.none_or] at hc
  rw [lT e]
  cases e1 : ps[posOf key ps]? with
  | none => exact lT (hc.trans e1)
  | some q =>
   rw [fT (hc.trans e1), if_neg]
   intro e2
   have := oh h e1
   rw [e2] at this
   exact aM _ this
theorem Up.kid {d : Nat} {ps : List Pr} {ks : List ND} {i : Nat} {k : ND} (hl : ks.length = ps.length + 1) (hu : Up (aS (d + 1) (.mk ps ks))) (hk : ks[i]? = some k) : Up (aS d k) := by
 rw [iK hk hl] at hu
 exact hu.left.right
structure Rw where
 a : Int
 b : Int
 c : Int
 d : Int
 deriving DecidableEq
def Rw.zero : Rw := ⟨0, 0, 0, 0⟩
def Rw.aG (r : Rw) : Nat -> Int
 | 0 => r.a
 | 1 => r.b
 | 2 => r.c
 | _ => r.d
def be : Nat -> Nat -> List UInt8
 | 0, _ => []
 | k + 1, n => UInt8.ofNat (n / 256 ^ k) :: be k (n % 256 ^ k)
theorem yL : ∀ (k n : Nat), (be k n).length = k
 | 0, _ => rfl
 | k + 1, n => by simp [be, yL k]
theorem L6 {a b : Nat} (ha : a < 256) (hb : b < 256) : UInt8.ofNat a < UInt8.ofNat b ↔ a < b := by
 rw [UInt8.lt_iff_toNat_lt]
 simp only [UInt8.toNat_ofNat']
 rw [Nat.mod_eq_of_lt (by simpa using ha), Nat.mod_eq_of_lt (by simpa using hb)]
theorem L8 {a b : Nat} (ha : a < 256) (hb : b < 256) : UInt8.ofNat a = UInt8.ofNat b ↔ a = b := by
 constructor
 ·intro h
  have := congrArg UInt8.toNat h
  simp only [UInt8.toNat_ofNat'] at this
  rwa [Nat.mod_eq_of_lt (by simpa using ha), Nat.mod_eq_of_lt (by simpa using hb)] at this
 ·rintro rfl; rfl
theorem Ci {K m n : Nat} (hK : 0 < K) : (m / K < n / K \/ m / K = n / K /\ m % K < n % K) ↔ m < n := by
 have hm := Nat.div_add_mod m K
 have hn := Nat.div_add_mod n K
 have h1 := Nat.mod_lt m hK
 have h2 := Nat.mod_lt n hK
 generalize m / K = a at *
 generalize n / K = b at *
 generalize m % K = r at *
 generalize n % K = s at *
 subst hm hn
 constructor
 ·rintro (h | ⟨rfl, h⟩)
  ·have : K * (a + 1) <= K * b := Nat.mul_le_mul_left K h
   rw [Nat.mul_add] at this
   omega
  ·omega
 ·intro h
  rcases Nat.lt_trichotomy a b with h' | h' | h'
  ·exact .inl h'
  ·subst h'; exact .inr ⟨rfl, by omega⟩
  ·have : K * (b + 1) <= K * a := Nat.mul_le_mul_left K h'
   rw [Nat.mul_add] at this
   omega
theorem IY : ∀ (k : Nat) {m n : Nat}, m < 256 ^ k -> n < 256 ^ k -> (be k m < be k n ↔ m < n)
 | 0, m, n, hm, hn => by
  have : m = 0 := by omega
  have : n = 0 := by omega
  subst m n
  simp [be]
 | k + 1, m, n, hm, hn => by
  have hK : 0 < 256 ^ k := Nat.pow_pos (by decide)
  have h1 : m / 256 ^ k < 256 := by rw [Nat.div_lt_iff_lt_mul hK]; rw [Nat.pow_succ] at hm; omega
  have h2 : n / 256 ^ k < 256 := by rw [Nat.div_lt_iff_lt_mul hK]; rw [Nat.pow_succ] at hn; omega
  rw [be, be, List.cons_lt_cons_iff, L6 h1 h2, L8 h1 h2, IY k (Nat.mod_lt _ hK) (Nat.mod_lt _ hK)]
  exact Ci hK
def I6 (n : Int) : Prop := -9223372036854775808 <= n /\ n < 9223372036854775808
def pfx (n : Int) : List UInt8 := be 8 (n + 9223372036854775808).toNat
theorem lU (n : Int) : (pfx n).length = 8 := yL _ _
theorem DT {a b : Int} (ha : I6 a) (hb : I6 b) : pfx a < pfx b ↔ a < b := by
 unfold pfx
 obtain ⟨a1, a2⟩ := ha
 obtain ⟨b1, b2⟩ := hb
 rw [IY 8 (by rw [show (256 : Nat) ^ 8 = 18446744073709551616 by decide]; omega) (by rw [show (256 : Nat) ^ 8 = 18446744073709551616 by decide]; omega)]
 omega
theorem GA {a b : Int} (ha : I6 a) (hb : I6 b) (h : pfx a = pfx b) : a = b := by
 rcases Int.lt_trichotomy a b with h' | h' | h'
 ·have := (DT ha hb).2 h'
  rw [h] at this
  exact absurd this (aM _)
 ·exact h'
 ·have := (DT hb ha).2 h'
  rw [h] at this
  exact absurd this (aM _)
def iM (v : Int) (k : List UInt8) : List UInt8 := pfx v ++ k
theorem DU {a b : Int} {k l : List UInt8} (ha : I6 a) (hb : I6 b) (h : iM a k = iM b l) : a = b /\ k = l := by
 have := List.append_inj h (by rw [lU, lU])
 exact ⟨GA ha hb this.1, this.2⟩
section
variable {α : Type}
def bU (p : List UInt8 × α) : List (List UInt8 × α) -> List (List UInt8 × α)
 | [] => [p]
 | q :: l => if q.1 < p.1 then q :: bU p l else if q.1 = p.1 then p :: l else p :: q :: l
def fU (key : List UInt8) : List (List UInt8 × α) -> List (List UInt8 × α)
 | [] => []
 | q :: l => if q.1 < key then q :: fU key l else if q.1 = key then l else q :: l
def aI (key : List UInt8) : List (List UInt8 × α) -> Option α
 | [] => none
 | q :: l => if q.1 < key then aI key l else if q.1 = key then some q.2 else none
def lg (l : List (List UInt8 × α)) : Prop := l.Pairwise fun a b => a.1 < b.1
theorem mY {p q : List UInt8 × α} : ∀ {l : List (List UInt8 × α)}, q ∈ bU p l -> q = p \/ q ∈ l
 | [], h => by simp [bU] at h; exact .inl h
 | x :: l, h => by
  simp only [bU] at h
  split at h
  ·rcases List.mem_cons.1 h with rfl | h
   ·exact .inr (by simp)
   ·exact (mY h).elim .inl (fun h => .inr (by simp [h]))
  ·split at h
   ·rcases List.mem_cons.1 h with rfl | h
    ·exact .inl rfl
    ·exact .inr (by simp [h])
   ·rcases List.mem_cons.1 h with rfl | h
    ·exact .inl rfl
    ·exact .inr h
theorem qu {key : List UInt8} {q : List UInt8 × α} : ∀ {l : List (List UInt8 × α)}, q ∈ fU key l -> q ∈ l
 | [], h => by simp [fU] at h
 | x :: l, h => by
  simp only [fU] at h
  split at h
  ·rcases List.mem_cons.1 h with rfl | h
   ·simp
   ·simp [qu h]
  ·split at h
   ·simp [h]
   ·exact h
theorem iu {p : List UInt8 × α} : ∀ {l : List (List UInt8 × α)}, lg l -> lg (bU p l)
 | [], _ => by simp [bU, lg]
 | x :: l, h => by
  have h' := List.pairwise_cons.1 h
  simp only [bU]
  split
  ·rename_i hx
   refine List.pairwise_cons.2 ⟨fun q hq => ?_, iu h'.2⟩
   rcases mY hq with rfl | hq
   ·exact hx
   ·exact h'.1 q hq
  ·rename_i hx
   split
   ·rename_i e
    exact List.pairwise_cons.2 ⟨fun q hq => by rw [<- e]; exact h'.1 q hq, h'.2⟩
   ·rename_i e
    have hlt : p.1 < x.1 := (og hx).elim id (fun e' => absurd e'.symm e)
    refine List.pairwise_cons.2 ⟨fun q hq => ?_, h⟩
    rcases List.mem_cons.1 hq with rfl | hq
    ·exact hlt
    ·exact fw hlt (h'.1 q hq)
theorem jU {key : List UInt8} : ∀ {l : List (List UInt8 × α)}, lg l -> lg (fU key l)
 | [], _ => by simp [fU, lg]
 | x :: l, h => by
  have h' := List.pairwise_cons.1 h
  simp only [fU]
  split
  ·exact List.pairwise_cons.2 ⟨fun q hq => h'.1 q (qu hq), jU h'.2⟩
  ·split
   ·exact h'.2
   ·exact h
theorem cJ {key : List UInt8} : ∀ {l : List (List UInt8 × α)}, lg l -> (aI key l = none ↔ ∀ q ∈ l, q.1 ≠ key)
 | [], _ => by simp [aI]
 | x :: l, h => by
  have h' := List.pairwise_cons.1 h
  simp only [aI]
  split
  ·rename_i hx
   rw [cJ h'.2]
   constructor
   ·intro hh q hq
    rcases List.mem_cons.1 hq with rfl | hq
    ·exact fun e => aM _ (e ▸ hx)
    ·exact hh q hq
   ·exact fun hh q hq => hh q (by simp [hq])
  ·rename_i hx
   split
   ·rename_i e
    simp only [reduceCtorEq, false_iff]
    exact fun hh => hh x (by simp) e
   ·rename_i e
    have hlt : key < x.1 := (og hx).elim id (fun e' => absurd e'.symm e)
    simp only [true_iff]
    intro q hq
    rcases List.mem_cons.1 hq with rfl | hq
    ·exact e
    ·exact fun e' => aM key (by have := fw hlt (h'.1 q hq); rwa [e'] at this)
theorem dv {key : List UInt8} {r : α} : ∀ {l : List (List UInt8 × α)}, lg l -> (aI key l = some r ↔ (key, r) ∈ l)
 | [], _ => by simp [aI]
 | x :: l, h => by
  have h' := List.pairwise_cons.1 h
  simp only [aI]
  split
  ·rename_i hx
   rw [dv h'.2]
   constructor
   ·exact fun hh => by simp [hh]
   ·intro hh
    rcases List.mem_cons.1 hh with e | hh
    ·rw [<- e] at hx; exact absurd hx (aM _)
    ·exact hh
  ·rename_i hx
   split
   ·rename_i e
    constructor
    ·intro hh
     injection hh with hh
     rw [<- e, <- hh]
     simp
    ·intro hh
     rcases List.mem_cons.1 hh with e' | hh
     ·rw [<- e']
     ·have := h'.1 _ hh
      rw [e] at this
      exact absurd this (aM _)
   ·rename_i e
    have hlt : key < x.1 := (og hx).elim id (fun e' => absurd e'.symm e)
    constructor
    ·intro hh; cases hh
    ·intro hh
     rcases List.mem_cons.1 hh with e' | hh
     ·rw [<- e'] at e; exact absurd rfl e
     ·have := fw hlt (h'.1 _ hh)
      exact absurd this (aM _)
theorem fV {p : List UInt8 × α} : ∀ {l : List (List UInt8 × α)}, aI p.1 l = none -> (bU p l).Perm (p :: l)
 | [], _ => List.Perm.refl _
 | x :: l, h => by
  simp only [aI] at h
  simp only [bU]
  split
  ·rename_i hx
   rw [if_pos hx] at h
   exact (List.Perm.cons x (fV h)).trans (List.Perm.swap _ _ _)
  ·rename_i hx
   rw [if_neg hx] at h
   split
   ·rename_i e
    rw [if_pos e] at h
    cases h
   ·exact List.Perm.refl _
theorem fW {key : List UInt8} {r : α} : ∀ {l : List (List UInt8 × α)}, aI key l = some r -> l.Perm ((key, r) :: fU key l)
 | [], h => by simp [aI] at h
 | x :: l, h => by
  simp only [aI] at h
  simp only [fU]
  split
  ·rename_i hx
   rw [if_pos hx] at h
   exact (List.Perm.cons x (fW h)).trans (List.Perm.swap _ _ _)
  ·rename_i hx
   rw [if_neg hx] at h
   split
   ·rename_i e
    rw [if_pos e] at h
    injection h with h
    rw [<- h, <- e]
   ·rename_i e
    rw [if_neg e] at h
    cases h
theorem oo {key : List UInt8} : ∀ {l : List (List UInt8 × α)}, aI key l = none -> fU key l = l
 | [], _ => rfl
 | x :: l, h => by
  simp only [aI] at h
  simp only [fU]
  split
  ·rename_i hx
   rw [if_pos hx] at h
   rw [oo h]
  ·rename_i hx
   rw [if_neg hx] at h
   split
   ·rename_i e
    rw [if_pos e] at h
    cases h
   ·rfl
theorem oq {key : List UInt8} {l : List (List UInt8 × α)} (h : lg l) : aI key (fU key l) = none := by
 rw [cJ (jU h)]
 cases e : aI key l with
 | none =>
  rw [oo e]
  exact (cJ h).1 e
 | some r =>
  have hp := fW e
  have hn : lg l := h
  intro q hq e'
  have hpw := hn
  have h2 : ((key, r) :: fU key l).Pairwise (fun a b => a.1 ≠ b.1) := by
   refine List.Perm.pairwise hp ?_ (fun h => Ne.symm h)
   exact List.Pairwise.imp (R := fun a b : List UInt8 × α => a.1 < b.1) (fun {a b} (h : a.1 < b.1) (e : a.1 = b.1) => aM b.1 (by rw [e] at h; exact h)) hpw
  exact (List.pairwise_cons.1 h2).1 q hq e'.symm
theorem qw {p : List UInt8 × α} : ∀ {l : List (List UInt8 × α)}, lg l -> bU p (fU p.1 l) = bU p l
 | [], _ => rfl
 | x :: l, h => by
  have h' := List.pairwise_cons.1 h
  simp only [fU, bU]
  split
  ·rename_i hx
   simp only [bU, if_pos hx]
   rw [qw h'.2]
  ·rename_i hx
   split
   ·rename_i e
    cases l with
    | nil => rfl
    | cons y l =>
     have hy := h'.1 y (by simp)
     rw [e] at hy
     simp only [bU]
     rw [if_neg (lQ hy), if_neg (fun e' => aM p.1 (by rw [e'] at hy; exact hy))]
   ·rename_i e
    simp only [bU, if_neg hx, if_neg e]
theorem mZ {p : List UInt8 × α} {l : List (List UInt8 × α)} (h : lg l) : (bU p l).length = if (aI p.1 l).isSome then l.length else l.length + 1 := by
 cases e : aI p.1 l with
 | none => simpa using (fV e).length_eq
 | some r =>
  rw [<- qw h, (fV (oq h)).length_eq]
  have := (fW e).length_eq
  simp at this ⊢
  omega
theorem DV {key : List UInt8} {r : α} {l : List (List UInt8 × α)} (h : aI key l = some r) : (fU key l).length + 1 = l.length := by
 have := (fW h).length_eq
 simpa using this.symm
theorem ot : ∀ {a b : List (List UInt8 × α)}, lg a -> lg b -> a.Perm b -> a = b
 | [], b, _, _, h => by rw [List.nil_perm] at h; exact h.symm
 | x :: a, [], _, _, h => by have := h.length_eq; simp at this
 | x :: a, y :: b, ha, hb, h => by
  have ha' := List.pairwise_cons.1 ha
  have hb' := List.pairwise_cons.1 hb
  have hxy : x = y := by
   rcases List.mem_cons.1 (h.mem_iff.1 (List.mem_cons_self (a := x))) with e | hx
   ·exact e
   ·rcases List.mem_cons.1 (h.mem_iff.2 (List.mem_cons_self (a := y))) with e | hy
    ·exact e.symm
    ·exact absurd (fw (ha'.1 y hy) (hb'.1 x hx)) (aM _)
  subst hxy
  rw [ot ha'.2 hb'.2 h.cons_inv]
end
theorem lh (p : Pr) : ∀ l : List Pr, ins p l = bU p l
 | [] => rfl
 | q :: l => by simp only [ins, bU, lh p l]
theorem del_eq (k : List UInt8) : ∀ l : List Pr, del k l = fU k l
 | [] => rfl
 | q :: l => by simp only [del, fU, del_eq k l]
theorem look_eq (k : List UInt8) : ∀ l : List Pr, look k l = aI k l
 | [] => rfl
 | q :: l => by
  have ih := look_eq k l
  unfold look at ih ⊢
  simp only [ceil, aI]
  split
  ·rename_i h
   split at h
   ·rename_i hq; rw [if_pos hq, <- ih, h]
   ·rename_i hq
    rw [if_neg hq]
    injection h with h
    rw [h]
  ·rename_i h
   split at h
   ·rename_i hq; rw [if_pos hq, <- ih, h]
   ·cases h
abbrev aW := List (List UInt8 × Rw)
section
variable (enc : Rw -> List UInt8)
def wK (q : List UInt8 × Rw) : Pr := (q.1, enc q.2)
theorem AY (p : List UInt8 × Rw) : ∀ l : aW, ins (wK enc p) (l.map (wK enc)) = (bU p l).map (wK enc)
 | [] => rfl
 | q :: l => by
  have ih := AY p l
  simp only [List.map_cons, ins, bU]
  show (if q.1 < p.1 then _ else _) = _
  by_cases h : q.1 < p.1
  ·rw [if_pos h, if_pos h, List.map_cons, <- ih]
  ·rw [if_neg h, if_neg h]
   show (if q.1 = p.1 then _ else _) = _
   by_cases h2 : q.1 = p.1
   ·rw [if_pos h2, if_pos h2, List.map_cons]
   ·rw [if_neg h2, if_neg h2, List.map_cons, List.map_cons]
theorem wM (k : List UInt8) : ∀ l : aW, look k (l.map (wK enc)) = (aI k l).map enc
 | [] => rfl
 | q :: l => by
  have ih := wM k l
  rw [look_eq] at ih ⊢
  simp only [List.map_cons, aI, ih, wK]
  split
  ·rfl
  ·split <;> rfl
end
def qx (c : Nat) (q : List UInt8 × Rw) : Pr := (iM (q.2.aG c) q.1, [])
def wN (c : Nat) : aW -> List Pr
 | [] => []
 | q :: l => bU (qx c q) (wN c l)
def RowsFit (l : aW) : Prop := ∀ q ∈ l, ∀ c, I6 (q.2.aG c)
theorem ju (c : Nat) : ∀ l : aW, Up (wN c l)
 | [] => by simp [wN, Up]
 | q :: l => iu (ju c l)
theorem wO {c : Nat} {p q : List UInt8 × Rw} (hp : I6 (p.2.aG c)) (hq : I6 (q.2.aG c)) (h : (qx c p).1 = (qx c q).1) : p.1 = q.1 := (DU hp hq h).2
theorem iO (c : Nat) : ∀ {l : aW}, lg l -> RowsFit l -> (wN c l).Perm (l.map (qx c))
 | [], _, _ => List.Perm.refl _
 | q :: l, h, hf => by
  have h' := List.pairwise_cons.1 h
  have ih := iO c h'.2 (fun p hp => hf p (by simp [hp]))
  refine (fV ?_).trans (List.Perm.cons _ ih)
  rw [cJ (ju c l)]
  intro p hp e
  obtain ⟨p', hp', rfl⟩ := List.mem_map.1 (ih.mem_iff.1 hp)
  have e1 := wO (hf p' (by simp [hp']) c) (hf q (by simp) c) e
  have := h'.1 p' hp'
  rw [e1] at this
  exact aM _ this
theorem DW {c : Nat} {l : aW} {il : List Pr} (h : lg l) (hf : RowsFit l) (hu : Up il) (hp : il.Perm (l.map (qx c))) : il = wN c l :=
 ot hu (ju c l) (hp.trans (iO c h hf).symm)
theorem GC {c : Nat} {l : aW} (h : lg l) (hf : RowsFit l) : (wN c l).length = l.length := by
 rw [(iO c h hf).length_eq, List.length_map]
theorem RowsFit.ins {p : List UInt8 × Rw} {l : aW} (h : RowsFit l) (hp : ∀ c, I6 (p.2.aG c)) : RowsFit (bU p l) := fun q hq => (mY hq).elim (fun e => by subst e; exact hp) (h q)
theorem RowsFit.del {k : List UInt8} {l : aW} (h : RowsFit l) : RowsFit (fU k l) := fun q hq => h q (qu hq)
theorem uu {c : Nat} {l : aW} {p : List UInt8 × Rw} (h : lg l) (hf : RowsFit l) (hp : I6 (p.2.aG c)) (hn : aI p.1 l = none) : aI (qx c p).1 (wN c l) = none := by
 rw [cJ (ju c l)]
 intro q hq e
 obtain ⟨q', hq', rfl⟩ := List.mem_map.1 ((iO c h hf).mem_iff.1 hq)
 exact (cJ h).1 hn q' hq' (wO (hf q' hq' c) hp e)
theorem ng {c : Nat} {l : aW} {k : List UInt8} {r : Rw} (h : lg l) (hf : RowsFit l) (hn : aI k l = some r) : aI (qx c (k, r)).1 (wN c l) = some [] := by
 rw [dv (ju c l)]
 exact (iO c h hf).mem_iff.2 (List.mem_map.2 ⟨(k, r), (dv h).1 hn, rfl⟩)
theorem DX {c : Nat} {l : aW} {p : List UInt8 × Rw} (h : lg l) (hf : RowsFit l) (hp : ∀ c, I6 (p.2.aG c)) (hn : aI p.1 l = none) : bU (qx c p) (wN c l) = wN c (bU p l) := by
 refine DW (iu h) (hf.ins hp) (iu (ju c l)) ?_
 refine (fV (uu h hf (hp c) hn)).trans ?_
 refine (List.Perm.cons _ (iO c h hf)).trans ?_
 exact ((fV hn).map (qx c)).symm
theorem JK {c : Nat} {l : aW} {k : List UInt8} {r : Rw} (h : lg l) (hf : RowsFit l) (hn : aI k l = some r) : fU (iM (r.aG c) k) (wN c l) = wN c (fU k l) := by
 refine DW (jU h) hf.del (jU (ju c l)) ?_
 have h1 := fW (ng (c := c) h hf hn)
 have h2 := ((iO c h hf).symm.trans h1).symm.trans ((fW hn).map (qx c))
 rw [List.map_cons] at h2
 exact List.Perm.cons_inv h2
theorem Ba {c : Nat} {l : aW} {k : List UInt8} {r old : Rw} (h : lg l) (hf : RowsFit l) (hr : ∀ c, I6 (r.aG c)) (hn : aI k l = some old) : bU (iM (r.aG c) k, []) (fU (iM (old.aG c) k) (wN c l)) = wN c (bU (k, r) l) := by
 rw [JK h hf hn]
 have := DX (c := c) (p := (k, r)) (jU (key := k) h) hf.del hr (oq h)
 rw [qw (p := (k, r)) h] at this
 exact this
theorem GD {c : Nat} {l : aW} {k : List UInt8} {r old : Rw} (h : lg l) (hf : RowsFit l) (hr : ∀ c, I6 (r.aG c)) (hn : aI k l = some old) (e : old.aG c = r.aG c) : wN c l = wN c (bU (k, r) l) := by
 rw [<- Ba h hf hr hn, e]
 have h1 := ng (c := c) h hf hn
 rw [show (qx c (k, old)).1 = iM (r.aG c) k by rw [<- e]; rfl] at h1
 refine ot (ju c l) (iu (jU (ju c l))) ?_
 exact (fW h1).trans (fV (p := (iM (r.aG c) k, [])) (oq (ju c l))).symm

end Go.Proofs.YtagemonojdgbdaaGreatDoor
