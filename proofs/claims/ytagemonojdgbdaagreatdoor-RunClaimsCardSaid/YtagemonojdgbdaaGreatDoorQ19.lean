import Derived.Test.YtagemonojdgbdaaGreatDoorQ01
import Derived.Test.YtagemonojdgbdaaGreatDoorQ18
import Derived.Lib.BufferRead
import Derived.WalkSmall
namespace Go.Proofs.YtagemonojdgbdaaGreatDoor
set_option maxRecDepth 100000
open Go.RowKit
theorem Hj (w : World) (F : Nat -> Prop) (b : Nat) (all : List UInt8) (pos p0 : Nat) (h : cz w F b all pos) (hp : p0 <= all.length) :
  Calls Tryz.prog 207 #[.agg #[.pointer (some ⟨b, 0, none⟩), .int .i64 p0]] w fun e w' => e = .returned (.tuple #[]) /\ Only (fun k => k = b) w w' /\ cz w' F b all p0 := by
 have H := Lib.hid h
 obtain ⟨A, c, hc0, hc1, Bz, hb, hpl, hcl, hcm, _⟩ := h.at_
 have hw1 := bW hc1 (.cells #[.pointer (some ⟨b, 0, none⟩), .int .i64 p0] 318)
 have hz1 : (w.alloc (.cells #[.pointer (some ⟨b, 0, none⟩), .int .i64 p0] 318)).frozen? ⟨b, 1, none⟩ = false := (World.frozen?_of_block (Below.heap_alloc w _ b hb)).trans Bz
 clear h hc0 hc1 Bz
 go_enter Tryz.func207, Tryz.ntmps207
 go_wp2_with fail
 go_end0
 refine ⟨rfl, ?_, ?_⟩
 ·exact (Only.setCell (Only.refl (fun k => k = b) w) (p := ⟨b, 1, none⟩) (fun _ => rfl) _).alloc _
 ·exact (H.out.set p0 hp).below ((Below.refl _ _).alloc (Nat.le_refl _) _)
theorem Hk (w : World) (F : Nat -> Prop) (b : Nat) (all : List UInt8) (pos : Nat) (h : cz w F b all pos) :
  Calls Tryz.prog 135 #[.pointer (some ⟨b, 0, none⟩)] w fun e w' => e = .returned (.int .i64 ((all.length - pos : Nat) : Int)) /\ Only (fun _ => False) w w' := by
 obtain ⟨A, c, hc0, hc1, Bz, hb, hpl, hcl, hcm, _⟩ := h.at_
 unfold maxLen at hcm
 clear h
 go_enter Tryz.func135, Tryz.ntmps135
 go_wp2_with fail
 go_quiet (fail)
 go_wp2_with fail
 go_ret
 exact ⟨by simp; omega, (Only.refl _ _).drewN _⟩
theorem uR {P : Program} {w : World} {F : Nat -> Prop} {A : Option Addr} {n c : Nat} {xs : List UInt8} (src dst e : TypeId) (hs : P.underlying src = some (.slice e)) (he : P.underlying e = some (.int .u8)) (hd : P.underlying dst = some .string)
  (h : Rd w F (.slice A n c) (xs.map B8)) : (convert src dst (.slice A n c)).run P w = .ok (.string ⟨xs.toArray⟩) w := by
 have hcells := h.cells rfl
 obtain ⟨A', n', c', hv, hl, hc, hm, hx⟩ := h
 injection hv with e1 e2 e3
 subst e1 e2 e3
 simp only [List.length_map] at hl
 subst hl
 rcases A with _ | a
 ·have : xs = [] := by
   rcases Nat.eq_zero_or_pos xs.length with h0 | h0
   ·exact List.eq_nil_of_length_eq_zero h0
   ·obtain ⟨_, _, h, _⟩ := hx h0; cases h
  subst this
  exact Lib.run_convert_nil_bytes w src dst e c hs he hd
 ·exact run_convert_bytes_back w src dst e a c xs hs he hd (fun j hj => hcells a rfl j _ (by simp [hj, B8]))
theorem Hm (w : World) (F : Nat -> Prop) (v : Value) (all : List UInt8) (hr : Rd w F v (all.map B8)) (hl : all.length <= 140737488355328) :
  Calls Tryz.prog 133 #[v] w fun e w' => ∃ b, e = .returned (.pointer (some ⟨b, 0, none⟩)) /\ Below w.heap.size w w' /\ cz w' (fun k => w.heap.size <= k) b all 0 := by
 obtain ⟨A, n, c, rfl, _⟩ := id hr
 have HR := Lib.hid hr
 clear hr
 go_enter Tryz.func133, Tryz.ntmps133
 go_wp2_with fail
 refine (pq _ _ F _ HR.out (D3 all) (by simpa using hl)).mono ?_
 rintro e w1 ⟨Ax, cx, rfl, hx, hbl⟩
 rw [List.length_map] at hx ⊢
 have HX := Lib.hid (And.intro hx hbl)
 clear hx hbl
 go_wp2_with fail
 go_ret
 have hsz := HX.out.2.size
 refine ⟨w1.heap.size, rfl, HX.out.2.alloc hsz _, .slice Ax all.length cx, heap_alloc_new _ _, hsz, Nat.zero_le _, dO (HX.out.1.alloc _) (fun _ _ => Nat.zero_le _), fun g hg => ⟨(HX.out.1.lt g hg).1, ?_⟩⟩
 have := (HX.out.1.lt g hg).2
 omega
def mB (n : Int) : Nat := if n < 0 then 2 * (-1 - n).toNat + 1 else 2 * n.toNat
def Jl (n : Nat) : Int := if n % 2 = 1 then -1 - ((n / 2 : Nat) : Int) else ((n / 2 : Nat) : Int)
theorem Hn (n : Int) : Jl (mB n) = n := by
 unfold Jl mB
 split <;> split <;> omega
theorem E3 {n : Int} (h1 : -9223372036854775808 <= n) (h2 : n <= 9223372036854775807) : mB n < 18446744073709551616 := by
 unfold mB
 split <;> omega
def Gn (bs : List UInt8) : Option (Int × List UInt8) := (rW 0 0 bs).map fun x => (Jl x.1, x.2)
theorem Ks (w : World) (F : Nat -> Prop) (b : Nat) (bs : List UInt8) (h : sw w F b bs) (n : Int) (h1 : -9223372036854775808 <= n) (h2 : n <= 9223372036854775807) (hlen : bs.length <= 1000000000) :
  Calls Tryz.prog 79 #[.pointer (some ⟨b, 0, none⟩), .int .i64 n] w (Kq 0 F b (bs ++ mj (mB n)) w) := by
 have H := Lib.hid h
 have hz := E3 h1 h2
 clear h
 by_cases hn : n < 0
 ·have hg := tF w F b bs H.out (mB n) hz hlen
  have e : ((mB n : Nat) : Int) = 2 * (-1 - n) + 1 := by unfold mB; rw [if_pos hn]; omega
  rw [e] at hg
  have HG := Lib.hid hg
  clear hg hz e
  go_enter Tryz.func79, Tryz.ntmps79
  go_wp2_with fail
  refine HG.out.mono ?_
  rintro e w1 ⟨rfl, ho, F', hw, hF'⟩
  go_wp2_with fail
  go_ret
  exact ⟨rfl, ho, F', hw, hF'⟩
 ·have hg := tF w F b bs H.out (mB n) hz hlen
  have e : ((mB n : Nat) : Int) = 2 * n := by unfold mB; rw [if_neg hn]; omega
  rw [e] at hg
  have HG := Lib.hid hg
  clear hg hz e
  go_enter Tryz.func79, Tryz.ntmps79
  go_wp2_with fail
  refine HG.out.mono ?_
  rintro e w1 ⟨rfl, ho, F', hw, hF'⟩
  go_wp2_with fail
  go_ret
  exact ⟨rfl, ho, F', hw, hF'⟩
def Qv (F : Nat -> Prop) (b : Nat) (all : List UInt8) (pos : Nat) (w : World) (e : Ending) (w' : World) : Prop :=
 Only (fun k => k = b) w w' /\ match Gn (all.drop pos) with
  | some (n, rest) => e = .returned (.tuple #[.int .i64 n, .int .i64 0]) /\ ∃ p', rest = all.drop p' /\ pos <= p' /\ cz w' F b all p'
  | none => e = .returned (.tuple #[.int .i64 0, .int .i64 11]) /\ ∃ p', cz w' F b all p'
theorem CI (w : World) (F : Nat -> Prop) (b : Nat) (all : List UInt8) (pos : Nat) (h : cz w F b all pos) :
  Calls Tryz.prog 163 #[.pointer (some ⟨b, 0, none⟩)] w (Qv F b all pos w) := by
 have H := Lib.hid h
 clear h
 go_enter Tryz.func163, Tryz.ntmps163
 go_wp2_with fail
 refine (zt w F b all pos H.out).mono ?_
 rintro e w1 ⟨ho, hm⟩
 cases hg : rW 0 0 (all.drop pos) with
 | none =>
  rw [hg] at hm
  obtain ⟨rfl, p', hr⟩ := hm
  have HU := Lib.hid (show Gn (all.drop pos) = none by simp [Gn, hg])
  clear hg
  go_wp2_with fail
  go_ret2
  refine ⟨ho, ?_⟩
  rw [HU.out]
  exact ⟨rfl, p', hr⟩
 | some x =>
  obtain ⟨n, rest⟩ := x
  rw [hg] at hm
  obtain ⟨rfl, p', hrest, LG, hr⟩ := hm
  have hn : n < 18446744073709551616 := by
   obtain ⟨m, hm, _, hlt, _⟩ := GH _ 0 0 n rest (by omega) hg
   simp at hm hlt
   omega
  have HU := Lib.hid (And.intro (show Gn (all.drop pos) = some (Jl n, rest) by simp [Gn, hg]) hrest)
  have ha := and_one_u64 (n : Int) (by omega) (by omega)
  clear hg hrest
  by_cases Ho : n % 2 = 1
  ·have fq : (n : Int) % 2 = 1 := by omega
   have HZ := Lib.hid (show Jl n = -1 - (n : Int) / 2 by unfold Jl; rw [if_pos Ho]; omega)
   clear Ho
   go_wp2_with fail
   go_ret2
   refine ⟨ho, ?_⟩
   rw [HU.out.1]
   refine ⟨?_, p', HU.out.2, LG, hr⟩
   rw [HZ.out]
   rfl
  ·have fq : ((n : Int) % 2 == 1) = false := by simp; omega
   have HZ := Lib.hid (show Jl n = (n : Int) / 2 by unfold Jl; rw [if_neg Ho]; omega)
   clear Ho
   go_wp2_with fail
   go_ret2
   refine ⟨ho, ?_⟩
   rw [HU.out.1]
   refine ⟨?_, p', HU.out.2, LG, hr⟩
   rw [HZ.out]
   rfl
def Ni (F : Nat -> Prop) (b : Nat) (all : List UInt8) (pos : Nat) (w : World) (e : Ending) (w' : World) : Prop :=
 Only (fun k => k = b) w w' /\ match Gn (all.drop pos) with
  | some (n, rest) => e = .returned (.tuple #[.int .i64 n, .int .i64 0]) /\ ∃ p', rest = all.drop p' /\ pos <= p' /\ cz w' F b all p'
  | none => e = .returned (.tuple #[.int .i64 0, .int .i64 11]) /\ cz w' F b all pos
theorem E4 (w : World) (F : Nat -> Prop) (b : Nat) (all : List UInt8) (pos : Nat) (h : cz w F b all pos) :
  Calls Tryz.prog 162 #[.pointer (some ⟨b, 0, none⟩), .func (.func 163) #[.pointer (some ⟨b, 0, none⟩)] #[]] w (Ni F b all pos w) := by
 have H := Lib.hid h
 obtain ⟨A, c, hc0, hc1, Bz, hb, hpl, hcl, hcm, _⟩ := h.at_
 clear h hc0 Bz
 go_enter Tryz.func162, Tryz.ntmps162
 go_wp2_with fail
 refine (CI w F b all pos H.out).mono ?_
 rintro e w1 ⟨ho, hm⟩
 cases hg : Gn (all.drop pos) with
 | none =>
  rw [hg] at hm
  obtain ⟨rfl, p', hr⟩ := hm
  have HG := Lib.hid (And.intro hg ho)
  clear hg ho
  go_wp2_with fail
  refine (Hj w1 F b all p' pos hr hpl).mono ?_
  rintro e w2 ⟨rfl, fq, hr2⟩
  have HR := Lib.hid (And.intro fq hr2)
  clear fq hr2
  go_wp2_with fail
  go_ret2
  refine ⟨HG.out.2.trans HR.out.1 (fun _ _ h => h), ?_⟩
  rw [HG.out.1]
  exact ⟨rfl, HR.out.2⟩
 | some x =>
  obtain ⟨n, rest⟩ := x
  rw [hg] at hm
  obtain ⟨rfl, p', hrest, LG, hr⟩ := hm
  have HG := Lib.hid (And.intro hg (And.intro ho hrest))
  clear hg ho hrest
  go_wp2_with fail
  go_ret2
  refine ⟨HG.out.2.1, ?_⟩
  rw [HG.out.1]
  exact ⟨rfl, p', HG.out.2.2, LG, hr⟩
theorem Kt (w : World) (F : Nat -> Prop) (b : Nat) (all : List UInt8) (pos : Nat) (h : cz w F b all pos) :
  Calls Tryz.prog 134 #[.pointer (some ⟨b, 0, none⟩)] w (Ni F b all pos w) := by
 have H := Lib.hid h
 clear h
 go_enter Tryz.func134, Tryz.ntmps134
 go_wp2_with fail
 refine (E4 w F b all pos H.out).mono ?_
 rintro e w1 hP
 have HP := Lib.hid hP
 obtain ⟨ho, hm⟩ := hP
 cases hg : Gn (all.drop pos) with
 | none =>
  rw [hg] at hm
  obtain ⟨rfl, hr⟩ := hm
  clear hg
  go_wp2_with fail
  go_ret2
  exact HP.out
 | some x =>
  obtain ⟨n, rest⟩ := x
  rw [hg] at hm
  obtain ⟨rfl, _⟩ := hm
  clear hg
  go_wp2_with fail
  go_ret2
  exact HP.out
def eI (r : Rw) : List UInt8 := mj (mB r.a) ++ mj (mB r.b) ++ mj (mB r.c) ++ mj (mB r.d)
theorem nC (r : Rw) : (eI r).length <= 40 := by
 have h1 := fX (mB r.a)
 have h2 := fX (mB r.b)
 have h3 := fX (mB r.c)
 have h4 := fX (mB r.d)
 unfold eI
 simp only [List.length_append]
 omega
def gW {α : Type} (f : Nat -> α) (i : Nat) (v : α) : Nat -> α := fun j => if j = i then v else f j
theorem eu {α : Type} (f : Nat -> α) (i : Nat) (v : α) : gW f i v i = v := if_pos rfl
theorem ey {α : Type} (f : Nat -> α) {i j : Nat} (v : α) (h : j ≠ i) : gW f i v j = f j := if_neg h
structure Ch where
 aG : Nat
 v : Int
 k : List UInt8
 add : Bool
def DG (k : List UInt8) (old now : Option Rw) (c : Nat) : List Ch :=
 match old, now with
 | some o, some n => if o.aG c = n.aG c then [] else [⟨c, o.aG c, k, false⟩, ⟨c, n.aG c, k, true⟩]
 | some o, none => [⟨c, o.aG c, k, false⟩]
 | none, some n => [⟨c, n.aG c, k, true⟩]
 | none, none => []
def gD (k : List UInt8) (old now : Option Rw) : Nat -> List Ch
 | 0 => []
 | c + 1 => gD k old now c ++ DG k old now c
def E5 (k : List UInt8) (old now : Option Rw) : List Ch := gD k old now 4
theorem p7 (k : List UInt8) (old now : Option Rw) (c : Nat) : (DG k old now c).length <= 2 := by
 unfold DG
 cases old <;> cases now <;> simp
 split <;> simp
theorem nD (k : List UInt8) (old now : Option Rw) : ∀ c, (gD k old now c).length <= 2 * c
 | 0 => by simp [gD]
 | c + 1 => by
  have h1 := nD k old now c
  have h2 := p7 k old now c
  simp only [gD, List.length_append]
  omega
theorem Hp {k : List UInt8} {old now : Option Rw} {c : Nat} {x : Ch} (h : x ∈ DG k old now c) : x.aG = c /\ x.k = k := by
 unfold DG at h
 split at h
 ·split at h
  ·simp at h
  ·simp only [List.mem_cons, List.not_mem_nil, or_false] at h
   rcases h with rfl | rfl <;> exact ⟨rfl, rfl⟩
 ·simp only [List.mem_cons, List.not_mem_nil, or_false] at h
  subst h; exact ⟨rfl, rfl⟩
 ·simp only [List.mem_cons, List.not_mem_nil, or_false] at h
  subst h; exact ⟨rfl, rfl⟩
 ·simp at h
theorem BA {k : List UInt8} {old now : Option Rw} {x : Ch} : ∀ {c : Nat}, x ∈ gD k old now c -> x.aG < c /\ x.k = k
 | 0, h => by simp [gD] at h
 | c + 1, h => by
  rcases List.mem_append.1 h with h | h
  ·have := BA h
   exact ⟨by omega, this.2⟩
  ·have := Hp h
   exact ⟨by omega, this.2⟩
theorem Hq {k : List UInt8} {old now : Option Rw} {c : Nat} {x : Ch} (ho : ∀ r, old = some r -> ∀ c, I6 (r.aG c)) (hn : ∀ r, now = some r -> ∀ c, I6 (r.aG c)) (h : x ∈ DG k old now c) : I6 x.v := by
 unfold DG at h
 split at h
 ·split at h
  ·simp at h
  ·simp only [List.mem_cons, List.not_mem_nil, or_false] at h
   rcases h with rfl | rfl
   ·exact ho _ rfl _
   ·exact hn _ rfl _
 ·simp only [List.mem_cons, List.not_mem_nil, or_false] at h
  subst h; exact ho _ rfl _
 ·simp only [List.mem_cons, List.not_mem_nil, or_false] at h
  subst h; exact hn _ rfl _
 ·simp at h
theorem BB {k : List UInt8} {old now : Option Rw} {x : Ch} (ho : ∀ r, old = some r -> ∀ c, I6 (r.aG c)) (hn : ∀ r, now = some r -> ∀ c, I6 (r.aG c)) : ∀ {c : Nat}, x ∈ gD k old now c -> I6 x.v
 | 0, h => by simp [gD] at h
 | c + 1, h => by
  rcases List.mem_append.1 h with h | h
  ·exact BB ho hn h
  ·exact Hq ho hn h
def O8 (k : List UInt8) (old now : Option Rw) (c : Nat) (l : List Pr) : List Pr :=
 match old, now with
 | some o, some n => if o.aG c = n.aG c then l else bU (iM (n.aG c) k, []) (fU (iM (o.aG c) k) l)
 | some o, none => fU (iM (o.aG c) k) l
 | none, some n => bU (iM (n.aG c) k, []) l
 | none, none => l
def je (ls : Nat -> List Pr) (x : Ch) : Nat -> List Pr := gW ls (x.aG + 1) (if x.add then ins (iM x.v x.k, []) (ls (x.aG + 1)) else del (iM x.v x.k) (ls (x.aG + 1)))
theorem Ku (k : List UInt8) (old now : Option Rw) (c : Nat) (ls : Nat -> List Pr) : (DG k old now c).foldl je ls = gW ls (c + 1) (O8 k old now c (ls (c + 1))) := by
 have h0 : ∀ v : List Pr, v = ls (c + 1) -> ls = gW ls (c + 1) v := by
  rintro v rfl
  funext j
  unfold gW
  split
  ·rename_i h; rw [h]
  ·rfl
 unfold DG O8
 split
 ·split
  ·rename_i h
   simp only [List.foldl_nil]
   exact h0 _ rfl
  ·rename_i h
   simp only [List.foldl_cons, List.foldl_nil, je, if_true, Bool.false_eq_true, if_false]
   funext j
   unfold gW
   split
   ·rename_i e
    rw [if_pos rfl, lh, del_eq]
   ·rfl
 ·simp only [List.foldl_cons, List.foldl_nil, je, Bool.false_eq_true, if_false, del_eq]
 ·simp only [List.foldl_cons, List.foldl_nil, je, if_true, lh]
 ·simp only [List.foldl_nil]
  exact h0 _ rfl
theorem E6 (k : List UInt8) (old now : Option Rw) (ls : Nat -> List Pr) : ∀ c, (gD k old now c).foldl je ls = fun i => if 1 <= i /\ i <= c then O8 k old now (i - 1) (ls i) else ls i
 | 0 => by
  funext i
  simp only [gD, List.foldl_nil]
  rw [if_neg (by omega)]
 | c + 1 => by
  rw [gD, List.foldl_append, E6 k old now ls c, Ku]
  funext i
  unfold gW
  by_cases h : i = c + 1
  ·subst h
   rw [if_pos rfl, if_neg (show ¬ (1 <= c + 1 /\ c + 1 <= c) by omega), if_pos (show 1 <= c + 1 /\ c + 1 <= c + 1 by omega)]
   rfl
  ·rw [if_neg h]
   show (if 1 <= i /\ i <= c then _ else _) = _
   by_cases h1 : 1 <= i /\ i <= c
   ·rw [if_pos h1, if_pos ⟨h1.1, by omega⟩]
   ·rw [if_neg h1, if_neg (by omega)]
theorem gK {α : Type} (p : List UInt8 × α) : ∀ l : List (List UInt8 × α), (bU p l).length <= l.length + 1
 | [] => by simp [bU]
 | q :: l => by
  have := gK p l
  simp only [bU]
  split
  ·simp only [List.length_cons]; omega
  ·split
   ·simp only [List.length_cons]; omega
   ·simp only [List.length_cons]; omega
theorem pz {α : Type} (k : List UInt8) : ∀ l : List (List UInt8 × α), (fU k l).length <= l.length
 | [] => by simp [fU]
 | q :: l => by
  have := pz k l
  simp only [fU]
  split
  ·simp only [List.length_cons]; omega
  ·split
   ·simp only [List.length_cons]; omega
   ·simp only [List.length_cons]; omega
theorem E7 (ls : Nat -> List Pr) (x : Ch) (i n : Nat) (h : (ls i).length <= n) : (je ls x i).length <= n + 1 := by
 unfold je gW
 split
 ·rename_i e
  subst e
  split
  ·rw [lh]; have := gK (iM x.v x.k, ([] : List UInt8)) (ls (x.aG + 1)); omega
  ·rw [del_eq]; have := pz (iM x.v x.k) (ls (x.aG + 1)); omega
 ·omega
theorem qV (i : Nat) : ∀ (xs : List Ch) (ls : Nat -> List Pr) (n : Nat), (ls i).length <= n -> (xs.foldl je ls i).length <= n + xs.length
 | [], ls, n, h => by simpa using h
 | x :: xs, ls, n, h => by
  have := qV i xs (je ls x) (n + 1) (E7 ls x i n h)
  simp only [List.foldl_cons, List.length_cons]
  omega
def gL (l : aW) (i : Nat) : List Pr := if i = 0 then l.map (wK eI) else wN (i - 1) l
theorem xL {l : aW} {k : List UInt8} {r : Rw} (h : lg l) (hf : RowsFit l) (hr : ∀ c, I6 (r.aG c)) (i : Nat) (hi : i < 5) :
  (E5 k (aI k l) (some r)).foldl je (gW (gL l) 0 (ins (k, eI r) (gL l 0))) i = gL (bU (k, r) l) i := by
 unfold E5
 rw [E6]
 show (if 1 <= i /\ i <= 4 then _ else _) = _
 by_cases h0 : i = 0
 ·subst h0
  rw [if_neg (by omega), eu]
  show ins (wK eI (k, r)) (l.map (wK eI)) = _
  rw [AY]
  rfl
 ·rw [if_pos ⟨by omega, by omega⟩, ey _ _ h0]
  unfold gL
  rw [if_neg h0, if_neg h0]
  unfold O8
  cases hl : aI k l with
  | none =>
   simp only
   exact DX (p := (k, r)) h hf hr hl
  | some o =>
   simp only
   split
   ·rename_i e
    exact GD h hf hr hl e
   ·exact Ba h hf hr hl
theorem iT {l : aW} (h : lg l) (hf : RowsFit l) (i : Nat) : (gL l i).length = l.length := by
 unfold gL
 split
 ·rw [List.length_map]
 ·exact GC h hf
end Go.Proofs.YtagemonojdgbdaaGreatDoor
