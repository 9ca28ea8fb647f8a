import Derived.Test.YtagemonojdgbdaaGreatDoorQ02
import Derived.Test.YtagemonojdgbdaaGreatDoorQ13
import Derived.Laws.BitsAllLaws
import Derived.Laws.BitsLemmas
import Derived.Lib.AppendStr
namespace Go.Proofs.YtagemonojdgbdaaGreatDoor
set_option maxRecDepth 100000
open Go.RowKit
def sw (w : World) (F : Nat -> Prop) (b : Nat) (bs : List UInt8) : Prop :=
 ∃ v, w.heap[b]? = some (.cells #[v] 188 (0, 0)) /\ F b /\ w.ownsRow 0 5 1 v bs.length (bs.map B8) /\ (∀ g, v.ownBlock = some g -> F g)
theorem p6 {wr w1 : World} {row : Option Nat} {o1 : Obj} (hgrow : (wr.alloc o1).grownBy w1 row) : Only (fun k => row = some k) wr w1 :=
 ((Only.refl _ wr).alloc o1).grown hgrow (fun _ hk _ => hk)
theorem Bx {wr w1 : World} {F' : Nat -> Prop} {b L m c cap : Nat} {A A' : Option Addr} {cur news : List UInt8} (hblk : wr.heap[b]? = some (.cells #[.slice A L c] 188 (0, 0)))
  (hn : cur.length = L) (hm : news.length = m) (hne : (Value.slice A L c).ownBlock ≠ some b) (Nb : ∀ g, (Value.slice A L c).ownBlock = some g -> F' g) (vN : F' b)
  (hown1 : w1.ownsRow 0 5 1 (.slice A' (L + m) cap) (L + m) (cur.map B8 ++ news.map B8)) (hgrow : Only (fun k => (Value.slice A L c).ownBlock = some k) wr w1)
  (hat : ∀ g, (Value.slice A' (L + m) cap).ownBlock = some g -> (Value.slice A L c).ownBlock = some g \/ wr.heap.size <= g) :
  sw (w1.setCell ⟨b, 0, none⟩ (.slice A' (L + m) cap)) (fun k => F' k \/ wr.heap.size <= k) b (cur ++ news) /\ Only F' wr (w1.setCell ⟨b, 0, none⟩ (.slice A' (L + m) cap)) := by
 have hb1 := hgrow.heap hblk hne
 refine ⟨⟨.slice A' (L + m) cap, ?_, .inl vN, ?_, ?_⟩, ?_⟩
 ·simp [World.setCell, Array.getElem?_modify, hb1]
 ·have h := aU hown1 (Only.aT w1 b 0 (.slice A' (L + m) cap)) (fun k hk e => by subst e; exact dH hown1 hb1 (by decide) hk)
  subst hn hm
  simpa using h
 ·intro k hk
  rcases hat k hk with h | h
  ·exact .inl (Nb _ h)
  ·exact .inr h
 ·exact (hgrow.mono (fun k _ h => Nb k h)).setCell (p := ⟨b, 0, none⟩) (fun _ => vN) _
set_option maxHeartbeats 1000000 in
theorem tF (w : World) (F : Nat -> Prop) (b : Nat) (bs : List UInt8) (h : sw w F b bs) (n : Nat) (hn : n < 18446744073709551616) (hlen : bs.length <= 1000000000) :
  Calls Tryz.prog 123 #[.pointer (some ⟨b, 0, none⟩), .int .u64 n] w fun e w' => e = .returned (.tuple #[]) /\ Only F w w' /\ ∃ F', sw w' F' b (bs ++ mj n) /\ ∀ k, F' k -> F k \/ w.heap.size <= k := by
 obtain ⟨i0, hi, hz0, hz1, hz2⟩ := info_parts Tryz.I4
 have HN := Lib.hid hn
 clear hn
 go_enter Tryz.func123, Tryz.ntmps123
 go_wp2_with fail
 go_loopw [1] (fun v wr => ∃ (m : Nat) (pre : List UInt8) (F' : Nat -> Prop), v = .int .u64 m /\ m <= n /\ mj n = pre ++ mj m /\ pre.length <= 9 /\ sw wr F' b (bs ++ pre) /\ Only F w wr /\ ∀ k, F' k -> F k \/ w.heap.size <= k)
   (fun v _ => (intOf v).toNat)
 case atStart => exact ⟨n, [], F, rfl, Nat.le_refl _, rfl, by simp, by simpa using h, Only.refl _ _, fun k hk => .inl hk⟩
 case round =>
  obtain ⟨m, pre, F', rfl, hm, hl, hpl, hwr, ho, hF'⟩ := hrel
  obtain ⟨v, hblk, vN, hown, Nb⟩ := hwr
  have hL : (bs ++ pre).length <= 1000000009 := by simp; omega
  have HB := Lib.hid (And.intro hl (And.intro Nb (And.intro vN hF')))
  generalize CG : bs ++ pre = cur at *
  have Nc := Lib.hid CG
  clear CG
  generalize hn : cur.length = L at *
  have Sm := Lib.hid hn
  obtain ⟨A, c, rfl⟩ := ar hown
  have hne : (Value.slice A L c).ownBlock ≠ some b := dH hown hblk (by decide)
  have hc := bz hblk
  have hf := ez hblk
  have hbs := (Array.getElem?_eq_some_iff.1 hblk).1
  have HW := Lib.hid (And.intro hblk (And.intro hown hne))
  clear hl hF' vN Nb hn hblk hown hne
  by_cases hge : 128 <= m
  ·have Kp : m < 18446744073709551616 := Nat.lt_of_le_of_lt hm HN.out
   obtain ⟨d, hd⟩ : ∃ d, m % 128 = d := ⟨_, rfl⟩
   have hd2 : d < 128 := by omega
   have e1 : bits .and .u64 (m : Int) 127 = (d : Int) := by
    have := u64_and_nat m 127 Kp (by decide)
    rw [show ((127 : Nat) : Int) = 127 from rfl] at this
    rw [this, <- hd]
    congr 1
    exact Nat.and_two_pow_sub_one_eq_mod m 7
   have e2 : (d : Int) % 256 = (d : Int) := by omega
   have e3 : bits .or .u8 (d : Int) 128 = ((UInt8.ofNat (d + 128)).toNat : Int) := by
    have := u8_or_nat d 128 (by omega) (by decide)
    rw [show ((128 : Nat) : Int) = 128 from rfl] at this
    rw [this, Nat.or_comm, nat_join 7 128 d (by decide) (by omega)]
    simp; omega
   have hy : mj m = UInt8.ofNat (d + 128) :: mj (m / 128) := by rw [JM hge Kp, hd]
   generalize UInt8.ofNat (d + 128) = y at *
   have HD := Lib.hid hy
   clear hd Kp hy
   have c1 : L + 1 <= maxLen := by simp only [maxLen]; omega
   have c2 : (L + 1) * 1 <= 140737488355328 := by omega
   have hown2 := HW.out.2.1.alloc (.cells #[B8 y] 5)
   have HC := Lib.hid (And.intro c1 (And.intro c2 hown2))
   clear c1 c2 hown2
   go_wp2_with (at_builtin; refine wpList_append_lies _ rfl _ _ 118 rfl 0 5 i0 (.int .u8 0) 1 1 Tryz.underlying118 hi hz0 hz1 hz2 rfl (by decide) (.slice A L c) L (cur.map B8) rfl HC.out.2.2 ⟨wr.heap.size, 0, none⟩ 1 1 [B8 y] rfl rfl (cell_one_new _ _ _) (by simp [B8, Value.oneCell']) (by decide) HC.out.1 HC.out.2.1 (Nat.zero_le _) (wr.heap.size + 1) (by simp) ?_; intro g cap w1 hown1 hgrow hat hlt; have zr := Lib.hid ((p6 hgrow).heap HW.out.1 HW.out.2.2); have hc1 := bz zr.out; have Bz := ez zr.out)
   go_roundw
   case rel =>
    obtain ⟨hw2, fq⟩ := Bx (m := 1) (news := [y]) HW.out.1 Sm.out rfl HW.out.2.2 HB.out.2.1 HB.out.2.2.1 hown1 (p6 hgrow) (fun k hk => by injection hk with hk; subst hk; exact hat.imp_right (fun h => by show wr.heap.size <= g; omega))
    have hl2 : mj n = (pre ++ [y]) ++ mj (m / 128) := by rw [HB.out.1, HD.out]; simp
    refine ⟨m / 128, pre ++ [y], fun k => F' k \/ wr.heap.size <= k, by simp, by omega, hl2, ?_, ?_, ho.trans fq (fun i hi h => ?_), fun k hk => ?_⟩
    ·have h1 := fX n
     have h2 := GF (m / 128)
     rw [hl2] at h1
     simp at h1 ⊢
     omega
    ·rw [<- List.append_assoc, Nc.out]; exact hw2
    ·rcases HB.out.2.2.2 i h with h | h
     ·exact h
     ·omega
    ·rcases hk with h | h
     ·exact HB.out.2.2.2 k h
     ·exact .inr (by have := ho.size; omega)
   case measure => simp [intOf]; omega
  ·have hlt : m < 128 := by omega
   have hy : mj m = [UInt8.ofNat m] := JL hlt
   have e1 : Value.int .u8 (m : Int) = B8 (UInt8.ofNat m) := by simp [B8]; omega
   have E1 := Lib.hid e1
   clear e1
   generalize UInt8.ofNat m = y at E1 hy
   have c1 : L + 1 <= maxLen := by simp only [maxLen]; omega
   have c2 : (L + 1) * 1 <= 140737488355328 := by omega
   have hown2 := HW.out.2.1.alloc (.cells #[.int .u8 (m : Int)] 5)
   have HC := Lib.hid (And.intro c1 (And.intro c2 hown2))
   have HD := Lib.hid hy
   clear c1 c2 hown2 hy
   go_wp2_with (at_builtin; refine wpList_append_lies _ rfl _ _ 118 rfl 0 5 i0 (.int .u8 0) 1 1 Tryz.underlying118 hi hz0 hz1 hz2 rfl (by decide) (.slice A L c) L (cur.map B8) rfl HC.out.2.2 ⟨wr.heap.size, 0, none⟩ 1 1 [.int .u8 (m : Int)] rfl rfl (cell_one_new _ _ _) (by simp [Value.oneCell']) (by decide) HC.out.1 HC.out.2.1 (Nat.zero_le _) (wr.heap.size + 1) (by simp) ?_; intro g cap w1 hown1 hgrow hat hlt; have zr := Lib.hid ((p6 hgrow).heap HW.out.1 HW.out.2.2); have hc1 := bz zr.out; have Bz := ez zr.out)
   go_end0
   rw [E1.out] at hown1
   obtain ⟨hw2, fq⟩ := Bx (m := 1) (news := [y]) HW.out.1 Sm.out rfl HW.out.2.2 HB.out.2.1 HB.out.2.2.1 hown1 (p6 hgrow) (fun k hk => by injection hk with hk; subst hk; exact hat.imp_right (fun h => by show wr.heap.size <= g; omega))
   refine ⟨rfl, ho.trans fq (fun i hi h => ?_), fun k => F' k \/ wr.heap.size <= k, ?_, fun k hk => ?_⟩
   ·rcases HB.out.2.2.2 i h with h | h
    ·exact h
    ·omega
   ·rw [HB.out.1, HD.out, <- List.append_assoc, Nc.out]; exact hw2
   ·rcases hk with h | h
    ·exact HB.out.2.2.2 k h
    ·exact .inr (by have := ho.size; omega)
def Kq (r : Int) (F : Nat -> Prop) (b : Nat) (bs : List UInt8) (w : World) (e : Ending) (w' : World) : Prop :=
 e = .returned (.int .i64 r) /\ Only F w w' /\ ∃ F', sw w' F' b bs /\ ∀ k, F' k -> F k \/ w.heap.size <= k
theorem CH (w : World) (F : Nat -> Prop) (b : Nat) (bs : List UInt8) (h : sw w F b bs) (hlen : bs.length <= 1000000000) :
  Calls Tryz.prog 82 #[.pointer (some ⟨b, 0, none⟩)] w (Ez 5 (bs.map B8) w) := by
 obtain ⟨v, hblk, _, hown, _⟩ := h
 obtain ⟨A, c, rfl⟩ := ar hown
 have hc := bz hblk
 have HR := Lib.hid (Rd.bC (F := fun _ => True) hown (fun _ _ => trivial))
 clear hblk hown
 go_enter Tryz.func82, Tryz.ntmps82
 go_wp2_with fail
 refine (pq _ _ _ _ HR.out (D3 bs) (by simp; omega)).mono ?_
 rintro e w1 ⟨Ax, cx, rfl, hx, hbl⟩
 have HX := Lib.hid (And.intro hx hbl)
 clear hx hbl
 go_wp2_with fail
 go_ret
 exact ⟨Ax, cx, by simp, HX.out.1, HX.out.2⟩
def cz (w : World) (F : Nat -> Prop) (b : Nat) (all : List UInt8) (pos : Nat) : Prop :=
 ∃ v, w.heap[b]? = some (.cells #[v, .int .i64 pos] 274 (0, 0)) /\ F b /\ pos <= all.length /\ w.ownsRow 0 5 1 v all.length (all.map B8) /\ (∀ g, v.ownBlock = some g -> F g /\ g ≠ b)
section
variable {w w' : World} {F S : Nat -> Prop} {b : Nat} {all : List UInt8} {pos : Nat}
theorem cz.only (h : cz w F b all pos) (ho : Only S w w') (hd : ∀ k, F k -> ¬ S k) : cz w' F b all pos := by
 obtain ⟨v, h1, h2, h3, h4, h5⟩ := h
 exact ⟨v, ho.heap h1 (hd b h2), h2, h3, aU h4 ho (fun g hg => hd g (h5 g hg).1), h5⟩
theorem cz.below (h : cz w F b all pos) (hb : Below w.heap.size w w') : cz w' F b all pos := h.only (Only.of_below hb fun _ => False) (fun _ _ => id)
theorem cz.bound (h : cz w F b all pos) : cz w (fun k => F k /\ k < w.heap.size) b all pos := by
 obtain ⟨v, h1, h2, h3, h4, h5⟩ := h
 exact ⟨v, h1, ⟨h2, (Array.getElem?_eq_some_iff.1 h1).1⟩, h3, h4, fun g hg => ⟨⟨(h5 g hg).1, (h4.lt g hg).2⟩, (h5 g hg).2⟩⟩
theorem cz.set (h : cz w F b all pos) (p' : Nat) (hp : p' <= all.length) : cz (w.setCell ⟨b, 1, none⟩ (.int .i64 p')) F b all p' := by
 obtain ⟨v, h1, h2, h3, h4, h5⟩ := h
 refine ⟨v, ?_, h2, hp, aU h4 (Only.aT w b 1 _) (fun g hg e => (h5 g hg).2 e), h5⟩
 simp [World.setCell, Array.getElem?_modify, h1]
theorem cz.at_ (h : cz w F b all pos) : ∃ A c, w.cell? ⟨b, 0, none⟩ = some (.slice A all.length c) /\ w.cell? ⟨b, 1, none⟩ = some (.int .i64 pos) /\ w.frozen? ⟨b, 1, none⟩ = false /\ b < w.heap.size /\ pos <= all.length /\ all.length <= c /\ c <= maxLen /\
  ∀ i x, all[i]? = some x -> ∃ g, A = some ⟨g, 0, none⟩ /\ w.cell? ⟨g, i, none⟩ = some (B8 x) := by
 obtain ⟨v, h1, h2, h3, h4, h5⟩ := h
 obtain ⟨A, c, rfl⟩ := ar h4
 obtain ⟨A', n', c', he, hl, hc, hm, hx⟩ := Rd.bC (F := fun _ => True) h4 (fun _ _ => trivial)
 injection he with e1 e2 e3
 subst e1 e2 e3
 refine ⟨A, c, by simp [World.cell?, h1], by simp [World.cell?, h1], by simp [World.frozen?, h1], (Array.getElem?_eq_some_iff.1 h1).1, h3, hc, hm, fun i x hi => ?_⟩
 have hlt := (List.getElem?_eq_some_iff.1 hi).1
 obtain ⟨g, cap, hv, _, _⟩ := h4.form (by omega)
 injection hv with e1 _ _
 subst e1
 refine ⟨g, rfl, ?_⟩
 rw [h4.cellAt i (by omega)]
 simp [hi]
end
theorem lv {w w' : World} {n : Nat} (h : w.drewN n = w') : Only (fun _ => False) w w' := by rw [<- h]; exact (Only.refl _ _).drewN _
def Hh (F : Nat -> Prop) (b : Nat) (all : List UInt8) (pos : Nat) (w : World) (e : Ending) (w' : World) : Prop :=
 Only (fun k => k = b) w w' /\ match rW 0 0 (all.drop pos) with
  | some (n, rest) => e = .returned (.tuple #[.int .u64 n, .int .i64 0]) /\ ∃ p', rest = all.drop p' /\ pos <= p' /\ cz w' F b all p'
  | none => e = .returned (.tuple #[.int .u64 0, .int .i64 11]) /\ ∃ p', cz w' F b all p'
theorem or_val {acc d k : Nat} (hk : k <= 9) (ha : acc < 128 ^ k) (hd : d * 128 ^ k < 18446744073709551616) :
  IntKind.u64.wrap ((d : Int) * 2 ^ (7 * k)) = ((d * 128 ^ k : Nat) : Int) /\ bits .or .u64 (acc : Int) ((d * 128 ^ k : Nat) : Int) = ((acc + d * 128 ^ k : Nat) : Int) := by
 have e : (2 : Nat) ^ (7 * k) = 128 ^ k := by rw [Nat.pow_mul]
 have ei : ((d : Int) * 2 ^ (7 * k)) = ((d * 128 ^ k : Nat) : Int) := by
  rw [<- e]
  push_cast
  rfl
 have ha2 : acc < 18446744073709551616 := by
  have : (128 : Nat) ^ k <= 128 ^ 9 := Nat.pow_le_pow_right (by decide) hk
  have h9 : (128 : Nat) ^ 9 = 9223372036854775808 := by decide
  omega
 constructor
 ·rw [ei, IntKind.wrap_u64]
  omega
 ·rw [u64_or_nat acc _ ha2 hd, Nat.or_comm, nat_join (7 * k) (d * 128 ^ k) acc (by rw [e]; exact Nat.mul_mod_left _ _) (by rw [e]; exact ha), Nat.add_comm]
theorem E2 {all : List UInt8} {p k acc : Nat} {x : UInt8} (h : all[p]? = some x) : rW k acc (all.drop p) = if k = 9 /\ 1 < x.toNat then none else if 128 <= x.toNat then rW (k + 1) (acc + (x.toNat - 128) * 128 ^ k) (all.drop (p + 1))
  else if x.toNat = 0 /\ 0 < k then none else some (acc + x.toNat * 128 ^ k, all.drop (p + 1)) := by
 have hlt := (List.getElem?_eq_some_iff.1 h).1
 have hx : all[p] = x := (List.getElem?_eq_some_iff.1 h).2
 rw [List.drop_eq_getElem_cons hlt, hx]
 rfl
set_option maxHeartbeats 4000000 in
theorem zt (w : World) (F : Nat -> Prop) (b : Nat) (all : List UInt8) (pos : Nat) (h : cz w F b all pos) :
  Calls Tryz.prog 208 #[.pointer (some ⟨b, 0, none⟩)] w (Hh F b all pos w) := by
 have H := Lib.hid h
 clear h
 go_enter Tryz.func208, Tryz.ntmps208
 go_wp2_with fail
 go_step3
 go_wp2_with fail
 go_step3
 go_wp2_with fail
 go_loopw [4, 5] (fun n s wr => ∃ k acc : Nat, k <= 9 /\ acc < 128 ^ k /\ n = .int .u64 acc /\ s = .int .i64 (7 * k : Nat) /\ rW 0 0 (all.drop pos) = rW k acc (all.drop (pos + k)) /\ cz wr F b all (pos + k) /\ Only (fun j => j = b) w wr)
  (fun _ s _ => (70 - intOf s).toNat)
 case atStart => exact ⟨0, 0, by omega, by simp, rfl, rfl, rfl, H.out, Only.refl _ _⟩
 case round =>
  obtain ⟨k, acc, hk, hacc, rfl, rfl, kP, hr, ho⟩ := hrel
  have HR := Lib.hid (And.intro hr (And.intro kP (And.intro ho hacc)))
  obtain ⟨A, c, hc0, hc1, Bz, hb, hpl, hcl, hcm, hcells⟩ := hr.at_
  have HC := Lib.hid hcells
  unfold maxLen at hcm
  clear hr kP ho hcells hacc
  generalize hp : pos + k = p at *
  have HP := Lib.hid hp
  clear hp
  by_cases hlt : p < all.length
  ·obtain ⟨x, hx⟩ : ∃ x, all[p]? = some x := ⟨_, List.getElem?_eq_getElem hlt⟩
   obtain ⟨g, rfl, LF⟩ := HC.out p x hx
   have i1 : (0 : Int) <= (p : Int) := by omega
   have i2 : (p : Int) < (all.length : Int) := by omega
   have Nf : wr.cell? ⟨g, p, none⟩ = some (.int .u8 (x.toNat : Int)) := LF
   have HX := Lib.hid (And.intro (E2 (k := k) (acc := acc) hx) x.toNat_lt)
   clear hx LF
   generalize UY : x.toNat = xn at *
   clear UY
   have Ng : xn < 256 := HX.out.2
   go_wp2_with fail
   go_quiet (fail)
   obtain ⟨w1, hw1⟩ : ∃ w1, wr.drewN nq = w1 := ⟨_, rfl⟩
   rw [hw1]
   have hq1 := lv hw1
   have d0 := hq1.cell hc0 id
   have d1 := hq1.cell hc1 id
   have dx := hq1.cell Nf id
   have dz : w1.frozen? ⟨b, 1, none⟩ = false := by rw [<- hw1]; exact Bz
   clear hw1
   go_wp2_with fail
   go_quiet (fail)
   obtain ⟨w2, hw2⟩ : ∃ w2, w1.drewN nq = w2 := ⟨_, rfl⟩
   rw [hw2]
   have hq2 := lv hw2
   have f1 := hq2.cell d1 id
   have fz : w2.frozen? ⟨b, 1, none⟩ = false := by rw [<- hw2]; exact dz
   have fq : Only (fun _ => False) wr w2 := hq1.trans hq2 (fun _ _ h => h)
   have hr2 := (HR.out.1.only fq (fun _ _ => id)).set (p + 1) (by omega)
   have Kr : Only (fun j => j = b) w (w2.setCell ⟨b, 1, none⟩ (.int .i64 ((p + 1 : Nat) : Int))) :=
    HR.out.2.2.1.trans ((Only.mono (T := fun j => j = b) fq (fun _ _ h => h.elim)).setCell (p := ⟨b, 1, none⟩) (fun _ => rfl) _) (fun _ _ h => h)
   have Jj : ((p + 1 : Nat) : Int) = (p : Int) + 1 := by omega
   rw [Jj] at hr2 Kr
   have HS := Lib.hid (And.intro hr2 Kr)
   clear hw2 hq1 hq2 d0 d1 dx dz hc0 hc1 Nf Bz fq hr2 Kr Jj
   by_cases hA : k = 9 /\ 1 < xn
   ·obtain ⟨rfl, hA⟩ := hA
    have hfin : rW 0 0 (all.drop pos) = none := by rw [HR.out.2.1, HX.out.1, if_pos ⟨rfl, hA⟩]
    have oI := Lib.hid hfin
    clear hfin
    go_wp2_with fail
    try rw [Exit.noGoto_ret]
    go_ret2
    refine ⟨HS.out.2, ?_⟩
    rw [oI.out]
    exact ⟨rfl, _, HS.out.1⟩
   ·by_cases hB : 128 <= xn
    ·have Bb : k < 9 := by omega
     have hd : bits .and .u8 (xn : Int) 127 = ((xn - 128 : Nat) : Int) := by
      have := u8_and_nat xn 127 Ng (by decide)
      rw [show ((127 : Nat) : Int) = 127 from rfl] at this
      rw [this]
      congr 1
      have := Nat.and_two_pow_sub_one_eq_mod xn 7
      simp at this
      rw [this]
      omega
     have UZ : (xn - 128) * 128 ^ k < 128 ^ (k + 1) := by
      rw [Nat.pow_succ, Nat.mul_comm (128 ^ k) 128]
      exact Nat.mul_lt_mul_of_pos_right (by omega) (Nat.pow_pos (by decide))
     have h9 : (128 : Nat) ^ (k + 1) <= 9223372036854775808 := by
      have h1 : (128 : Nat) ^ (k + 1) <= 128 ^ 9 := Nat.pow_le_pow_right (by decide) (by omega)
      have h2 : (128 : Nat) ^ 9 = 9223372036854775808 := by decide
      omega
     obtain ⟨e3, e4⟩ := or_val (d := xn - 128) hk HR.out.2.2.2 (by omega)
     have hfin : rW 0 0 (all.drop pos) = rW (k + 1) (acc + (xn - 128) * 128 ^ k) (all.drop (p + 1)) := by rw [HR.out.2.1, HX.out.1, if_neg hA, if_pos hB]
     have Jk : acc + (xn - 128) * 128 ^ k < 128 ^ (k + 1) := by
      have := HR.out.2.2.2
      have e1 : (128 : Nat) ^ (k + 1) = 128 * 128 ^ k := by rw [Nat.pow_succ, Nat.mul_comm]
      have e2 : (xn - 128) * 128 ^ k <= 127 * 128 ^ k := Nat.mul_le_mul_right _ (by omega)
      omega
     have e2 : IntKind.u64.wrap ((xn - 128 : Nat) : Int) = ((xn - 128 : Nat) : Int) := by rw [IntKind.wrap_u64]; omega
     generalize (xn - 128) * 128 ^ k = m at *
     generalize Nh : acc + m = acc' at *
     have oI := Lib.hid (And.intro hfin Jk)
     generalize xn - 128 = d at *
     clear hfin Jk Nh UZ h9
     go_wp2_with fail
     go_roundw
     case rel =>
      refine ⟨k + 1, acc', by omega, oI.out.2, rfl, by simp; omega, ?_, ?_, HS.out.2⟩
      ·rw [oI.out.1, <- HP.out, Nat.add_assoc]
      ·rw [<- Nat.add_assoc, HP.out]; exact HS.out.1
     case measure => simp [intOf]; omega
    ·by_cases hC : xn = 0 /\ 0 < k
     ·have hfin : rW 0 0 (all.drop pos) = none := by rw [HR.out.2.1, HX.out.1, if_neg hA, if_neg hB, if_pos hC]
      obtain ⟨rfl, dW⟩ := hC
      have oI := Lib.hid hfin
      clear hfin
      by_cases Bb : k = 9
      ·subst Bb
       go_wp2_with fail
       try rw [Exit.noGoto_ret]
       go_ret2
       refine ⟨HS.out.2, ?_⟩
       rw [oI.out]
       exact ⟨rfl, _, HS.out.1⟩
      ·go_wp2_with fail
       try rw [Exit.noGoto_ret]
       go_ret2
       refine ⟨HS.out.2, ?_⟩
       rw [oI.out]
       exact ⟨rfl, _, HS.out.1⟩
     ·have hxk : xn * 128 ^ k < 18446744073709551616 := by
       by_cases Bb : k = 9
       ·subst Bb
        have h2 : (128 : Nat) ^ 9 = 9223372036854775808 := by decide
        rw [h2]
        omega
       ·have h1 : (128 : Nat) ^ (k + 1) <= 128 ^ 9 := Nat.pow_le_pow_right (by decide) (by omega)
        have h2 : (128 : Nat) ^ 9 = 9223372036854775808 := by decide
        have e1 : (128 : Nat) ^ (k + 1) = 128 * 128 ^ k := by rw [Nat.pow_succ, Nat.mul_comm]
        have e2 : xn * 128 ^ k <= 127 * 128 ^ k := Nat.mul_le_mul_right _ (by omega)
        omega
      obtain ⟨e3, e4⟩ := or_val (d := xn) hk HR.out.2.2.2 hxk
      have hfin : rW 0 0 (all.drop pos) = some (acc + xn * 128 ^ k, all.drop (p + 1)) := by rw [HR.out.2.1, HX.out.1, if_neg hA, if_neg hB, if_neg hC]
      have oI := Lib.hid hfin
      have HE := Lib.hid (And.intro e3 e4)
      clear hfin e3 e4 hxk
      by_cases Bb : k = 9
      ·subst Bb
       have hx1 : xn = 1 := by omega
       subst hx1
       have e5 : bits .or .u64 (acc : Int) 9223372036854775808 = ((acc + 1 * 128 ^ 9 : Nat) : Int) := HE.out.2
       generalize acc + 1 * 128 ^ 9 = v at *
       go_wp2_with fail
       try rw [Exit.noGoto_ret]
       go_ret2
       refine ⟨HS.out.2, ?_⟩
       rw [oI.out]
       exact ⟨rfl, p + 1, rfl, by have := HP.out; omega, HS.out.1⟩
      ·by_cases hx0 : xn = 0
       ·obtain rfl : k = 0 := by omega
        subst hx0
        have ha := HR.out.2.2.2
        simp at ha
        subst ha
        have e5 : bits .or .u64 0 0 = 0 := by decide
        go_wp2_with fail
        try rw [Exit.noGoto_ret]
        go_ret2
        refine ⟨HS.out.2, ?_⟩
        rw [oI.out]
        exact ⟨by simp, p + 1, rfl, by have := HP.out; omega, HS.out.1⟩
       ·have e3 := HE.out.1
        have e4 := HE.out.2
        clear HE HX
        generalize xn * 128 ^ k = m at *
        generalize acc + m = v at *
        go_wp2_with fail
        try rw [Exit.noGoto_ret]
        go_ret2
        refine ⟨HS.out.2, ?_⟩
        rw [oI.out]
        exact ⟨rfl, p + 1, rfl, by have := HP.out; omega, HS.out.1⟩
  ·obtain rfl : p = all.length := by omega
   have hfin : rW 0 0 (all.drop pos) = none := by rw [HR.out.2.1]; simp [rW]
   have oI := Lib.hid hfin
   clear hfin
   have i2 : decide ((all.length : Int) < (all.length : Int)) = false := by simp
   go_wp2_with fail
   go_quiet (fail)
   obtain ⟨w1, hw1⟩ : ∃ w1, wr.drewN nq = w1 := ⟨_, rfl⟩
   rw [hw1]
   have hq1 := lv hw1
   have hr1 := HR.out.1.only hq1 (fun _ _ => id)
   have uQ := HR.out.2.2.1.trans hq1 (fun _ _ h => h.elim)
   have HS := Lib.hid (And.intro hr1 uQ)
   clear hw1 hr1 uQ hq1
   go_wp2_with fail
   try rw [Exit.noGoto_ret]
   go_ret2
   refine ⟨HS.out.2, ?_⟩
   rw [oI.out]
   exact ⟨rfl, _, HS.out.1⟩
end Go.Proofs.YtagemonojdgbdaaGreatDoor
