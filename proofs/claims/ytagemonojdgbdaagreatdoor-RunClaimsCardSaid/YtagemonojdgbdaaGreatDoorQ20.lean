import Derived.Test.YtagemonojdgbdaaGreatDoorQ17
import Derived.Test.YtagemonojdgbdaaGreatDoorQ19
namespace Go.Proofs.YtagemonojdgbdaaGreatDoor
set_option maxRecDepth 100000
open Go.RowKit
def jJ (a : Nat) : Value := .pointer (some ⟨a, 0, none⟩)
structure fK (w : World) (T : Nat) (most : Int) (o : Nat) (t : Nat -> Nat) (ls : Nat -> List Pr) (Fs : Nat -> Nat -> Nat -> Prop) : Prop where
 blk : w.heap[T]? = some (.cells #[.int .i64 most, jJ (t 0), jJ (t 1), jJ (t 2), jJ (t 3), jJ (t 4)] 151 (0, 0))
 tree : ∀ i, i < 5 -> bD w (t i) o (ls i) (Fs i)
 apart : ∀ i j, i < 5 -> j < 5 -> i ≠ j -> ∀ b q, Fs i b q -> ¬ Fs j b q
 Gp : ∀ i, i < 5 -> ∀ b q, Fs i b q -> b < w.heap.size
 own : ∀ i, i < 5 -> ∀ q, ¬ Fs i T q
def nE (Fs : Nat -> Nat -> Nat -> Prop) (b q : Nat) : Prop := ∃ i, i < 5 /\ Fs i b q
section
variable {w w' : World} {T o : Nat} {most : Int} {t : Nat -> Nat} {ls Nj : Nat -> List Pr} {Fs : Nat -> Nat -> Nat -> Prop} {S : Nat -> Prop} {G : Nat -> Nat -> Prop}
theorem fK.congr (h : fK w T most o t ls Fs) (e : ∀ i, i < 5 -> ls i = Nj i) : fK w T most o t Nj Fs :=
 ⟨h.blk, fun i hi => by rw [<- e i hi]; exact h.tree i hi, h.apart, h.Gp, h.own⟩
theorem fK.eP (h : fK w T most o t ls Fs) (ho : Only S w w') (hT : ¬ S T) (hd : ∀ b q, nE Fs b q -> ¬ S b) : fK w' T most o t ls Fs :=
 ⟨ho.heap h.blk hT, fun i hi => (h.tree i hi).eP ho (fun b q hf => hd b q ⟨i, hi, hf⟩), h.apart, fun i hi b q hf => Nat.lt_of_lt_of_le (h.Gp i hi b q hf) ho.size, h.own⟩
theorem fK.below (h : fK w T most o t ls Fs) (hb : Below w.heap.size w w') : fK w' T most o t ls Fs := h.eP (Only.of_below hb (fun _ => False)) (fun h => h) (fun _ _ _ h => h)
theorem fK.lt (h : fK w T most o t ls Fs) : T < w.heap.size := lt_of_heap h.blk
theorem fK.upd (h : fK w T most o t ls Fs) {i : Nat} (hi : i < 5) {l' : List Pr} (ht : bD w' (t i) o l' (fun b q => Fs i b q \/ w.heap.size <= b)) (ho : OnlyC (Fs i) w w') :
  fK w' T most o t (gW ls i l') (gW Fs i (fun b q => (Fs i b q \/ w.heap.size <= b) /\ b < w'.heap.size)) := by
 have hT := h.lt
 refine ⟨ho.heap h.blk (h.own i hi), fun j hj => ?_, fun a b ha hb hab x y h1 h2 => ?_, fun j hj b q hf => ?_, fun j hj q hf => ?_⟩
 ·by_cases zu : j = i
  ·subst zu
   rw [eu, eu]
   exact ht.bound
  ·rw [ey _ _ zu, ey _ _ zu]
   exact (h.tree j hj).only ho (fun b q hf => h.apart j i hj hi zu b q hf)
 ·by_cases hai : a = i
  ·subst hai
   have O9 : b ≠ a := fun e => hab e.symm
   rw [eu] at h1
   rw [ey _ _ O9] at h2
   rcases h1.1 with h1 | h1
   ·exact h.apart a b ha hb hab x y h1 h2
   ·have := h.Gp b hb x y h2
    omega
  ·rw [ey _ _ hai] at h1
   by_cases O9 : b = i
   ·subst O9
    rw [eu] at h2
    rcases h2.1 with h2 | h2
    ·exact h.apart a b ha hb hab x y h1 h2
    ·have := h.Gp a ha x y h1
     omega
   ·rw [ey _ _ O9] at h2
    exact h.apart a b ha hb hab x y h1 h2
 ·by_cases zu : j = i
  ·subst zu
   rw [eu] at hf
   exact hf.2
  ·rw [ey _ _ zu] at hf
   exact Nat.lt_of_lt_of_le (h.Gp j hj b q hf) ho.size
 ·by_cases zu : j = i
  ·subst zu
   rw [eu] at hf
   rcases hf.1 with hf | hf
   ·exact h.own j hj q hf
   ·omega
  ·rw [ey _ _ zu] at hf
   exact h.own j hj q hf
theorem BC {i N M : Nat} (hi : i < 5) {b q : Nat} (h : nE (gW Fs i (fun b q => (Fs i b q \/ N <= b) /\ b < M)) b q) : nE Fs b q \/ N <= b := by
 obtain ⟨j, hj, hf⟩ := h
 by_cases zu : j = i
 ·subst zu
  rw [eu] at hf
  exact hf.1.elim (fun h => .inl ⟨j, hj, h⟩) .inr
 ·rw [ey _ _ zu] at hf
  exact .inl ⟨j, hj, hf⟩
theorem fK.c0 (h : fK w T most o t ls Fs) : w.cell? ⟨T, 0, none⟩ = some (.int .i64 most) := by simp [World.cell?, h.blk]
theorem fK.ci (h : fK w T most o t ls Fs) {i : Nat} (hi : i < 5) : w.cell? ⟨T, i + 1, none⟩ = some (jJ (t i)) := by
 match i, hi with
 | 0, _ | 1, _ | 2, _ | 3, _ | 4, _ => simp [World.cell?, h.blk]
end
def cM (w : World) (T : Nat) (most : Int) (o : Nat) (l : aW) (F : Nat -> Nat -> Prop) : Prop :=
 ∃ t Fs, fK w T most o t (gL l) Fs /\ lg l /\ RowsFit l /\ (∀ q ∈ l, 1 <= q.1.length /\ q.1.length <= 16) /\ (1 <= most /\ most <= 1024) /\ (l.length : Int) <= most /\ (∀ b q, nE Fs b q -> F b q) /\ ∀ q, F T q
section
variable {w w' : World} {T o : Nat} {most : Int} {l : aW} {F G : Nat -> Nat -> Prop} {S : Nat -> Prop}
theorem cM.eP (h : cM w T most o l F) (ho : Only S w w') (hd : ∀ b q, F b q -> ¬ S b) : cM w' T most o l F := by
 obtain ⟨t, Fs, h1, h2, h3, h4, h5, h6, h7, h8⟩ := h
 exact ⟨t, Fs, h1.eP ho (hd T 0 (h8 0)) (fun b q hf => hd b q (h7 b q hf)), h2, h3, h4, h5, h6, h7, h8⟩
theorem cM.below (h : cM w T most o l F) (hb : Below w.heap.size w w') : cM w' T most o l F := h.eP (Only.of_below hb (fun _ => False)) (fun _ _ _ h => h)
theorem cM.mono (h : cM w T most o l F) (hF : ∀ b q, F b q -> G b q) : cM w T most o l G := by
 obtain ⟨t, Fs, h1, h2, h3, h4, h5, h6, h7, h8⟩ := h
 exact ⟨t, Fs, h1, h2, h3, h4, h5, h6, fun b q hf => hF b q (h7 b q hf), fun q => hF T q (h8 q)⟩
theorem cM.bound (h : cM w T most o l F) : cM w T most o l (fun b q => F b q /\ b < w.heap.size) := by
 obtain ⟨t, Fs, h1, h2, h3, h4, h5, h6, h7, h8⟩ := h
 exact ⟨t, Fs, h1, h2, h3, h4, h5, h6, fun b q hf => ⟨h7 b q hf, let ⟨i, hi, hf⟩ := hf; h1.Gp i hi b q hf⟩, fun q => ⟨h8 q, h1.lt⟩⟩
theorem cM.up (h : cM w T most o l F) : lg l := by obtain ⟨t, Fs, h1, h2, _⟩ := h; exact h2
theorem cM.Nk (h : cM w T most o l F) : 1 <= most /\ most <= 1024 := by obtain ⟨t, Fs, h1, h2, h3, h4, h5, _⟩ := h; exact h5
theorem cM.len (h : cM w T most o l F) : (l.length : Int) <= most := by obtain ⟨t, Fs, h1, h2, h3, h4, h5, h6, _⟩ := h; exact h6
end
theorem zw {w : World} {T N o : Nat} (h1 : w.heap[T]? = some (.cells #[.int .i64 o, .int .i64 0, .pointer (some ⟨N, 0, none⟩)] 203 (0, 0))) (h2 : w.heap[N]? = some (.cells #[.slice none 0 0, .slice none 0 0] 201 (0, 0)))
  (ho : 2 <= o /\ o <= 16) (hne : N ≠ T) : bD w T o [] (fun b _ => b = T \/ b = N) := by
 refine ⟨0, N, .mk [] [], fun b _ => b = N, h1, ⟨rfl, .slice none 0 0, .slice none 0 0, [], fun i b _ => i = 0 /\ b = N, h2, fun _ => ⟨rfl, rfl⟩, aj.nil _ _ _ _, aj.nil _ _ _ _, rfl, fun i p k hp _ => by simp at hp, fun i b q h => h.2, fun i j b q h h' => h.1.trans h'.1.symm⟩, ?_, rfl, List.Pairwise.nil, ho, fun b q h => .inr h, fun q => .inl rfl, fun q h => hne h.symm⟩
 exact ⟨Nat.zero_le _, Nat.zero_le _, rfl⟩
theorem xM (w : World) (n : Nat) (h1 : 2 <= n) (h2 : n <= 16) : Calls Tryz.prog 57 #[.int .i64 n] w fun e w' =>
  ∃ T F, e = .returned (.tuple #[.pointer (some ⟨T, 0, none⟩), .int .i64 0]) /\ bD w' T n [] F /\ (∀ b q, F b q -> w.heap.size <= b /\ b < w'.heap.size) /\ Below w.heap.size w w' := by
 have hb := ag w (.cells #[.slice none 0 0, .slice none 0 0] 201)
 have k1 := heap_alloc_new w (.cells #[.slice none 0 0, .slice none 0 0] 201)
 have hb2 := ag (w.alloc (.cells #[.slice none 0 0, .slice none 0 0] 201)) (.cells #[.int .i64 n, .int .i64 0, .pointer (some ⟨w.heap.size, 0, none⟩)] 203)
 have k2 := heap_alloc_new (w.alloc (.cells #[.slice none 0 0, .slice none 0 0] 201)) (.cells #[.int .i64 n, .int .i64 0, .pointer (some ⟨w.heap.size, 0, none⟩)] 203)
 have H := Lib.hid (show ∃ T F, T = w.heap.size + 1 /\ bD ((w.alloc (.cells #[.slice none 0 0, .slice none 0 0] 201)).alloc (.cells #[.int .i64 n, .int .i64 0, .pointer (some ⟨w.heap.size, 0, none⟩)] 203)) T n [] F /\ (∀ b q, F b q -> w.heap.size <= b /\ b < w.heap.size + 2) /\ Below w.heap.size w ((w.alloc (.cells #[.slice none 0 0, .slice none 0 0] 201)).alloc (.cells #[.int .i64 n, .int .i64 0, .pointer (some ⟨w.heap.size, 0, none⟩)] 203)) from
  ⟨_, fun b _ => b = w.heap.size + 1 \/ b = w.heap.size, rfl, zw (by simpa using k2) ((Only.of_below hb2 (fun _ => False)).heap k1 (fun h => h)) ⟨h1, h2⟩ (by omega), fun b q h => by omega, hb.trans (hb2.mono (by simp))⟩)
 have h1' : ¬ (n : Int) < 2 := by omega
 have h2' : ¬ (16 : Int) < (n : Int) := by omega
 clear hb k1 hb2 k2
 go_enter Tryz.func57, Tryz.ntmps57
 go_wp2_with fail
 go_ret2
 obtain ⟨T, F, e, h3, h4, h5⟩ := H.out
 subst e
 exact ⟨_, rfl, F, h3, fun b q h => by have := h4 b q h; simp; omega, h5⟩
def mQ (w wr : World) (T : Nat) (most : Int) (n k : Nat) : Prop :=
 ∃ (cs : Array Value) (t : Nat -> Nat) (Fs : Nat -> Nat -> Nat -> Prop), wr.heap[T]? = some (.cells cs 151 (0, 0)) /\ cs.size = 6 /\ cs[0]? = some (.int .i64 most) /\ Below w.heap.size w wr /\ w.heap.size <= T /\
  (∀ j, j < k -> cs[j + 1]? = some (jJ (t j)) /\ bD wr (t j) n [] (Fs j) /\ (∀ b q, Fs j b q -> (w.heap.size <= b /\ b < wr.heap.size) /\ b ≠ T)) /\ ∀ i j, i < k -> j < k -> i ≠ j -> ∀ b q, Fs i b q -> ¬ Fs j b q
theorem mQ.more {w wr w' : World} {T x : Nat} {most : Int} {n k : Nat} {F : Nat -> Nat -> Prop} (h : mQ w wr T most n k) (hk : k < 5) (hb : Below wr.heap.size wr w') (hE : bD w' x n [] F) (hF : ∀ b q, F b q -> wr.heap.size <= b /\ b < w'.heap.size) : mQ w (w'.setCell ⟨T, k + 1, none⟩ (jJ x)) T most n (k + 1) := by
 obtain ⟨cs, t, Fs, h1, h2, h3, h5, h6, h7, h8⟩ := h
 have yX := lt_of_heap h1
 have h1' := (Only.of_below hb (fun _ => False)).heap h1 (fun h => h)
 have ho := Only.aT w' T (k + 1) (jJ x)
 refine ⟨cs.setIfInBounds (k + 1) (jJ x), gW t k x, gW Fs k F, by simp [World.setCell, Array.getElem?_modify, h1'], by simpa using h2, ?_, (h5.trans (hb.mono h5.size)).setCell (p := ⟨T, k + 1, none⟩) h6 _, h6, fun j hj => ?_, fun i j hi hj hij b q q1 q2 => ?_⟩
 ·rw [Array.getElem?_setIfInBounds, if_neg (by omega)]
  exact h3
 ·by_cases hjk : j = k
  ·subst hjk
   rw [eu, eu, Array.getElem?_setIfInBounds, if_pos rfl, if_pos (by omega)]
   refine ⟨rfl, hE.eP ho (fun b q hf e => ?_), fun b q hf => ?_⟩
   ·have := hF b q hf; omega
   ·have := hF b q hf
    have := h5.size
    have := ho.size
    omega
  ·obtain ⟨a1, a2, a3⟩ := h7 j (by omega)
   rw [ey _ _ hjk, ey _ _ hjk, Array.getElem?_setIfInBounds, if_neg (by omega)]
   refine ⟨a1, (a2.below hb).eP ho (fun b q hf e => (a3 b q hf).2 e), fun b q hf => ?_⟩
   have := a3 b q hf
   have := hb.size
   have := ho.size
   omega
 ·by_cases hik : i = k
  ·subst hik
   have zu : j ≠ i := fun e => hij e.symm
   rw [eu] at q1
   rw [ey _ _ zu] at q2
   have h1 := hF b q q1
   have h2 := (h7 j (by omega)).2.2 b q q2
   omega
  ·rw [ey _ _ hik] at q1
   by_cases hjk : j = k
   ·subst hjk
    rw [eu] at q2
    have h1 := hF b q q2
    have h2 := (h7 i (by omega)).2.2 b q q1
    omega
   ·rw [ey _ _ hjk] at q2
    exact h8 i j (by omega) (by omega) hij b q q1 q2
theorem mQ.all {w wr : World} {T : Nat} {most : Int} {n : Nat} (h : mQ w wr T most n 5) (h1 : 1 <= most) (h2 : most <= 1024) : cM wr T most n [] (fun b _ => w.heap.size <= b /\ b < wr.heap.size) := by
 obtain ⟨⟨l⟩, t, Fs, g1, g2, g3, g5, g6, g7, g8⟩ := h
 match l, g2 with
 | [c0, c1, c2, c3, c4, c5], _ =>
  have a0 := (g7 0 (by decide)).1
  have a1 := (g7 1 (by decide)).1
  have a2 := (g7 2 (by decide)).1
  have a3 := (g7 3 (by decide)).1
  have a4 := (g7 4 (by decide)).1
  simp at g3 a0 a1 a2 a3 a4
  subst g3 a0 a1 a2 a3 a4
  refine ⟨t, Fs, ⟨g1, fun i hi => ?_, g8, fun i hi b q hf => ((g7 i hi).2.2 b q hf).1.2, fun i hi q hf => ((g7 i hi).2.2 T q hf).2 rfl⟩, List.Pairwise.nil, fun q hq => by simp at hq, fun q hq => by simp at hq, ⟨h1, h2⟩, by simp; omega, fun b q hf => ?_, fun q => ⟨g6, lt_of_heap g1⟩⟩
  ·have : gL [] i = [] := by unfold gL; split <;> rfl
   rw [this]
   exact (g7 i hi).2.1
  ·obtain ⟨i, hi, hf⟩ := hf
   exact ((g7 i hi).2.2 b q hf).1
set_option maxHeartbeats 1000000 in
theorem zx (w : World) (most : Int) (n : Nat) (h1 : 1 <= most) (h2 : most <= 1024) (h3 : 2 <= n) (h4 : n <= 16) : Calls Tryz.prog 33 #[.int .i64 most, .int .i64 n] w fun e w' =>
  ∃ T, e = .returned (.tuple #[.pointer (some ⟨T, 0, none⟩), .int .i64 0]) /\ cM w' T most n [] (fun b _ => w.heap.size <= b /\ b < w'.heap.size) /\ Below w.heap.size w w' := by
 have hb0 := ag w (.cells #[.int .i64 most, .pointer none, .pointer none, .pointer none, .pointer none, .pointer none] 151)
 have k0 := heap_alloc_new w (.cells #[.int .i64 most, .pointer none, .pointer none, .pointer none, .pointer none, .pointer none] 151)
 have m1 : ¬ most < 1 := by omega
 have m2 : ¬ 1024 < most := by omega
 have HN := Lib.hid (And.intro h3 (And.intro h4 (And.intro h1 h2)))
 go_enter Tryz.func33, Tryz.ntmps33
 go_upto_region 4 with fail
 generalize w.alloc (.cells #[.int .i64 most, .pointer none, .pointer none, .pointer none, .pointer none, .pointer none] 151) = w1 at hb0 k0 ⊢
 obtain ⟨T, hT⟩ : ∃ x, w.heap.size = x := ⟨_, rfl⟩
 rw [hT] at k0 ⊢
 have HS := Lib.hid (show mQ w w1 T most n 0 from ⟨_, fun _ => 0, fun _ _ _ => False, k0, rfl, rfl, hb0, by omega, fun j hj => by omega, fun i j hi => by omega⟩)
 clear hb0 k0 hT h3 h4
 go_wp2_with fail
 go_loopw [19] (fun i wr => ∃ k : Nat, k <= 5 /\ i = .int .i64 (k : Int) /\ mQ w wr T most n k) (fun i _ => 5 - (intOf i).toNat)
 case atStart => exact ⟨0, by decide, rfl, HS.out⟩
 case round =>
  obtain ⟨k, hk, rfl, hR⟩ := hrel
  by_cases hlt : k < 5
  ·have HR := Lib.hid hR
   have HC := Lib.hid (xM wr n HN.out.1 HN.out.2.1)
   clear hR
   go_wp2_with fail
   refine HC.out.mono ?_
   rintro e w2 ⟨x, F, rfl, hE, hF, hb⟩
   have hM := HR.out.more hlt hb hE hF
   obtain ⟨cs, t, Fs, q1, q2, _⟩ := HR.out
   have q1' := (Only.of_below hb (fun _ => False)).heap q1 (fun h => h)
   obtain ⟨cv, hcv⟩ : ∃ v, cs[k + 1]? = some v := ⟨_, Array.getElem?_eq_getElem (by omega)⟩
   have z0 : w2.cell? ⟨T, 1 + k, none⟩ = some cv := by rw [Nat.add_comm 1 k]; simp [World.cell?, q1', hcv]
   have z1 : w2.frozen? ⟨T, 1 + k, none⟩ = false := by simp [World.frozen?, q1']
   have i1 : (0 : Int) <= (k : Int) := by omega
   have i2 : (k : Int) < 5 := by omega
   have HM := Lib.hid hM
   clear hM q1 q1' q2 hcv hE hF hb HC
   go_wp2_with fail
   go_roundw
   case rel => exact ⟨k + 1, by omega, by go_num, by rw [Nat.add_comm 1 k]; exact HM.out⟩
   case measure => simp [intOf]; omega
  ·obtain rfl : k = 5 := by omega
   have HR := Lib.hid hR
   clear hR
   go_wp2_with fail
   go_ret2
   have hA := HR.out.all HN.out.2.2.1 HN.out.2.2.2
   obtain ⟨cs, t, Fs, q1, q2, q3, q5, q6, q7⟩ := id HR.out
   exact ⟨T, rfl, hA, q5⟩
end Go.Proofs.YtagemonojdgbdaaGreatDoor
