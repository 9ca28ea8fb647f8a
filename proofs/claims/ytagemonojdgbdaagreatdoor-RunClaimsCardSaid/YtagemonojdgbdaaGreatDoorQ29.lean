import Derived.Test.YtagemonojdgbdaaGreatDoorQ05
import Derived.Test.YtagemonojdgbdaaGreatDoorQ21
import Derived.Test.YtagemonojdgbdaaGreatDoorQ28
namespace Go.Proofs.YtagemonojdgbdaaGreatDoor
set_option maxRecDepth 100000
open Go.RowKit
def Ch.cells (x : Ch) : List Value := [.int .i64 (x.aG : Int), .int .i64 x.v, .string ⟨x.k.toArray⟩, .bool x.add]
def sF (l : List Ch) : List Value := (l.map Ch.cells).flatten
theorem Ig (l m : List Ch) : sF (l ++ m) = sF l ++ sF m := by simp [sF]
theorem oM (l : List Ch) : ∀ y ∈ l.map Ch.cells, y.length = 4 := by
 intro y hy
 obtain ⟨x, _, rfl⟩ := List.mem_map.1 hy
 rfl
theorem KF (l : List Ch) : ∀ u ∈ (l.map Ch.cells).flatten, u.oneCell' = true := by
 intro u hu
 obtain ⟨y, hy, hu⟩ := List.mem_flatten.1 hu
 obtain ⟨x, _, rfl⟩ := List.mem_map.1 hy
 simp only [Ch.cells, List.mem_cons, List.not_mem_nil, or_false] at hu
 rcases hu with rfl | rfl | rfl | rfl <;> rfl
theorem Tryz.KG : (Tryz.prog.info? 218).map (fun i => (i.zero, i.size, i.bytes)) = some (some (.agg #[.int .i64 0, .int .i64 0, .string ⟨#[]⟩, .bool false]), 4, 40) := by kernel_rfl
def rD (w : World) (v : Value) : Option Rw -> Prop
 | none => v = .pointer none
 | some r => ∃ b, v = .pointer (some ⟨b, 0, none⟩) /\ w.heap[b]? = some (.cells #[.int .i64 r.a, .int .i64 r.b, .int .i64 r.c, .int .i64 r.d] 26 (0, 0))
set_option maxHeartbeats 1000000 in
theorem iV (w : World) (base : Nat) (v vx : Value) (l m : List Ch) (F : Nat -> Prop) (hown : w.ownsRow base 218 4 v l.length (sF l)) (hr : bE 4 w F vx (m.map Ch.cells)) (hl : l.length + m.length <= 1000) (hb : base <= w.heap.size) :
  Calls Tryz.prog 140 #[v, vx] w fun e w' => ∃ v', e = .returned v' /\ w'.ownsRow base 218 4 v' (l ++ m).length (sF (l ++ m)) /\ Only (fun k => v.ownBlock = some k) w w' /\ (v'.ownBlock = v.ownBlock \/ v'.ownBlock = some w.heap.size) := by
 obtain ⟨i0, hi, hz0, hz1, hz2⟩ := info_parts Tryz.KG
 obtain ⟨A, c, rfl⟩ := ar hown
 obtain ⟨A', n', c', rfl, _⟩ := id hr
 have H := Lib.hid (And.intro hown (And.intro hr (And.intro hl hb)))
 clear hown hr hl hb
 go_enter Tryz.func140, Tryz.ntmps140
 go_wp2_with (at_builtin; go_loud (refine aH _ rfl _ _ 212 rfl base 218 i0 _ 4 40 Tryz.underlying212 hi hz0 hz1 hz2 rfl (by decide) _ l.length (sF l) rfl H.out.1 F _ (m.map Ch.cells) rfl H.out.2.1 (oM m) (KF m) (by have := H.out.2.2.1; simp; omega) (by have := H.out.2.2.1; simp [maxLen]; omega) H.out.2.2.2 ?_); intro v' w1 hown1 hgrow1 hat)
 go_ret
 refine ⟨v', rfl, ?_, Only.of_grownBy hgrow1, hat⟩
 rw [Ig, List.length_append]
 have h := hown1
 rw [List.length_map] at h
 exact h
theorem uY {w : World} {X : Nat} {x : Ch} {t : TypeId} (h : w.heap[X]? = some (.cells #[.int .i64 (x.aG : Int), .int .i64 x.v, .string ⟨x.k.toArray⟩, .bool x.add] t (0, 0))) : bE 4 w (fun _ => True) (.slice (some ⟨X, 0, none⟩) 1 1) ([x].map Ch.cells) := by
 refine ⟨_, 1, 1, rfl, rfl, Nat.le_refl _, by simp [maxLen], fun _ => ⟨X, 0, rfl, trivial, fun i y hi j u hj => ?_⟩⟩
 have h1 := jk (k := 4) (xs := [x].map Ch.cells) (oM [x]) i y hi j u hj
 rw [World.cell?, h]
 have h2 : (#[.int .i64 (x.aG : Int), .int .i64 x.v, .string ⟨x.k.toArray⟩, .bool x.add] : Array Value).toList = ([x].map Ch.cells).flatten := rfl
 rw [<- h2] at h1
 simpa using h1
def gN (k : List UInt8) (old now : Option Rw) (c : Nat) : List Ch :=
 (match old with
  | some o => [⟨c, o.aG c, k, false⟩]
  | none => []) ++ (match now with
  | some n => [⟨c, n.aG c, k, true⟩]
  | none => [])
theorem l9 {k : List UInt8} {old now : Option Rw} {c : Nat} (h : ∀ o n, old = some o -> now = some n -> o.aG c ≠ n.aG c) : DG k old now c = gN k old now c := by
 unfold DG gN
 split
 ·rename_i o n
  rw [if_neg (h o n rfl rfl)]
  rfl
 ·rfl
 ·rfl
 ·rfl
def QW (l : List Ch) (w : World) (e : Ending) (w' : World) : Prop := ∃ v, e = .returned v /\ w'.ownsRow w.heap.size 218 4 v l.length (sF l) /\ Below w.heap.size w w'
set_option maxHeartbeats 1000000 in
theorem C0 (w : World) (k : List UInt8) (c : Nat) (hc : c < 4) (nb : Nat) (n : Rw) (hn : w.heap[nb]? = some (.cells #[.int .i64 n.a, .int .i64 n.b, .int .i64 n.c, .int .i64 n.d] 26 (0, 0))) : Calls Tryz.prog 141 #[.int .i64 (c : Int), .string ⟨k.toArray⟩, .pointer none, .pointer (some ⟨nb, 0, none⟩)] w (QW (gN k none (some n) c) w) := by
 have i1 : (0 : Int) <= (c : Int) := by omega
 have i2 : (c : Int) < 4 := by omega
 have y0 := aF hn hc
 obtain ⟨y, hy⟩ : ∃ y, n.aG c = y := ⟨_, rfl⟩
 rw [hy] at y0
 have H := Lib.hid (And.intro hn hy)
 clear hn hy
 go_enter Tryz.func141, Tryz.ntmps141
 have hown0 : w.ownsRow w.heap.size 218 4 (.slice none 0 0) ([] : List Ch).length (sF []) := World.ownsRow_nil _ _ _ _
 have H0 := Lib.hid (And.intro hown0 (Below.refl w.heap.size w))
 clear hown0
 have hb := ag w (.cells #[.int .i64 (c : Int), .int .i64 y, .string ⟨k.toArray⟩, .bool true] 218)
 have kx := heap_alloc_new w (.cells #[.int .i64 (c : Int), .int .i64 y, .string ⟨k.toArray⟩, .bool true] 218)
 have hown := aC H0.out.1 hb
 have HA := Lib.hid (And.intro (iV (w.alloc (.cells #[.int .i64 (c : Int), .int .i64 y, .string ⟨k.toArray⟩, .bool true] 218)) w.heap.size (.slice none 0 0) (.slice (some ⟨w.heap.size, 0, none⟩) 1 1) [] [⟨c, y, k, true⟩] (fun _ => True) hown (uY kx) (by simp) (by have := H0.out.2.size; have := hb.size; omega)) hb)
 clear hb kx hown
 go_wp2_with fail
 refine HA.out.1.mono ?_
 rintro e w2 ⟨v2, rfl, hown2, fq, FC⟩
 obtain ⟨A2, c2, rfl⟩ := ar hown2
 have H2 := Lib.hid (And.intro hown2 (show Below w.heap.size w w2 from (H0.out.2.trans (HA.out.2.mono H0.out.2.size)).trans (fq.au (Nat.le_trans H0.out.2.size HA.out.2.size) (fun k hk h => ?_))))
 rotate_left
 ·simp [Value.ownBlock] at h
 clear hown2 fq FC HA
 go_wp2_with fail
 go_ret
 refine ⟨_, rfl, ?_, H2.out.2⟩
 have h := H2.out.1
 unfold gN
 simp only [H.out.2]
 exact h
set_option maxHeartbeats 1000000 in
theorem C3 (w : World) (k : List UInt8) (c : Nat) (hc : c < 4) (ob : Nat) (o : Rw) (ho : w.heap[ob]? = some (.cells #[.int .i64 o.a, .int .i64 o.b, .int .i64 o.c, .int .i64 o.d] 26 (0, 0))) : Calls Tryz.prog 141 #[.int .i64 (c : Int), .string ⟨k.toArray⟩, .pointer (some ⟨ob, 0, none⟩), .pointer none] w (QW (gN k (some o) none c) w) := by
 have i1 : (0 : Int) <= (c : Int) := by omega
 have i2 : (c : Int) < 4 := by omega
 have z0 := aF ho hc
 obtain ⟨x, hx⟩ : ∃ x, o.aG c = x := ⟨_, rfl⟩
 rw [hx] at z0
 have H := Lib.hid (And.intro ho hx)
 clear ho hx
 go_enter Tryz.func141, Tryz.ntmps141
 have hown0 : w.ownsRow w.heap.size 218 4 (.slice none 0 0) ([] : List Ch).length (sF []) := World.ownsRow_nil _ _ _ _
 have H0 := Lib.hid (And.intro hown0 (Below.refl w.heap.size w))
 clear hown0
 have hb := ag w (.cells #[.int .i64 (c : Int), .int .i64 x, .string ⟨k.toArray⟩, .bool false] 218)
 have kx := heap_alloc_new w (.cells #[.int .i64 (c : Int), .int .i64 x, .string ⟨k.toArray⟩, .bool false] 218)
 have hown := aC H0.out.1 hb
 have HA := Lib.hid (And.intro (iV (w.alloc (.cells #[.int .i64 (c : Int), .int .i64 x, .string ⟨k.toArray⟩, .bool false] 218)) w.heap.size (.slice none 0 0) (.slice (some ⟨w.heap.size, 0, none⟩) 1 1) [] [⟨c, x, k, false⟩] (fun _ => True) hown (uY kx) (by simp) (by have := H0.out.2.size; have := hb.size; omega)) hb)
 clear hb kx hown
 go_wp2_with fail
 refine HA.out.1.mono ?_
 rintro e w1 ⟨v1, rfl, hown1, uQ, oC⟩
 obtain ⟨A1, c1, rfl⟩ := ar hown1
 have H1 := Lib.hid (And.intro hown1 (show Below w.heap.size w w1 from HA.out.2.trans (uQ.au HA.out.2.size (fun k hk h => by simp [Value.ownBlock] at h))))
 clear hown1 uQ oC HA
 go_wp2_with fail
 go_ret
 refine ⟨_, rfl, ?_, H1.out.2⟩
 have h := H1.out.1
 unfold gN
 simp only [H.out.2]
 exact h
set_option maxHeartbeats 1000000 in
theorem C4 (w : World) (k : List UInt8) (c : Nat) (hc : c < 4) (ob : Nat) (o : Rw) (ho : w.heap[ob]? = some (.cells #[.int .i64 o.a, .int .i64 o.b, .int .i64 o.c, .int .i64 o.d] 26 (0, 0))) (nb : Nat) (n : Rw) (hn : w.heap[nb]? = some (.cells #[.int .i64 n.a, .int .i64 n.b, .int .i64 n.c, .int .i64 n.d] 26 (0, 0))) : Calls Tryz.prog 141 #[.int .i64 (c : Int), .string ⟨k.toArray⟩, .pointer (some ⟨ob, 0, none⟩), .pointer (some ⟨nb, 0, none⟩)] w (QW (gN k (some o) (some n) c) w) := by
 have i1 : (0 : Int) <= (c : Int) := by omega
 have i2 : (c : Int) < 4 := by omega
 have z0 := aF ho hc
 obtain ⟨x, hx⟩ : ∃ x, o.aG c = x := ⟨_, rfl⟩
 rw [hx] at z0
 have y0 := aF hn hc
 obtain ⟨y, hy⟩ : ∃ y, n.aG c = y := ⟨_, rfl⟩
 rw [hy] at y0
 have H := Lib.hid (And.intro ho (And.intro hx (And.intro hn hy)))
 clear ho hx hn hy
 go_enter Tryz.func141, Tryz.ntmps141
 have hown0 : w.ownsRow w.heap.size 218 4 (.slice none 0 0) ([] : List Ch).length (sF []) := World.ownsRow_nil _ _ _ _
 have H0 := Lib.hid (And.intro hown0 (Below.refl w.heap.size w))
 clear hown0
 have hb := ag w (.cells #[.int .i64 (c : Int), .int .i64 x, .string ⟨k.toArray⟩, .bool false] 218)
 have kx := heap_alloc_new w (.cells #[.int .i64 (c : Int), .int .i64 x, .string ⟨k.toArray⟩, .bool false] 218)
 have hown := aC H0.out.1 hb
 have HA := Lib.hid (And.intro (iV (w.alloc (.cells #[.int .i64 (c : Int), .int .i64 x, .string ⟨k.toArray⟩, .bool false] 218)) w.heap.size (.slice none 0 0) (.slice (some ⟨w.heap.size, 0, none⟩) 1 1) [] [⟨c, x, k, false⟩] (fun _ => True) hown (uY kx) (by simp) (by have := H0.out.2.size; have := hb.size; omega)) hb)
 clear hb kx hown
 go_wp2_with fail
 refine HA.out.1.mono ?_
 rintro e w1 ⟨v1, rfl, hown1, uQ, oC⟩
 obtain ⟨A1, c1, rfl⟩ := ar hown1
 simp only [List.nil_append, List.length_cons, List.length_nil, Nat.zero_add] at hown1 ⊢
 have H1 := Lib.hid (And.intro hown1 (show Below w.heap.size w w1 from HA.out.2.trans (uQ.au HA.out.2.size (fun k hk h => by simp [Value.ownBlock] at h))))
 clear hown1 uQ oC HA
 have y0 : w1.cell? ⟨nb, c, none⟩ = some (.int .i64 y) := (H1.out.2.cell (p := ⟨nb, c, none⟩) (World.block_lt_of_cell? w _ y0)).trans y0
 have hb := ag w1 (.cells #[.int .i64 (c : Int), .int .i64 y, .string ⟨k.toArray⟩, .bool true] 218)
 have kx := heap_alloc_new w1 (.cells #[.int .i64 (c : Int), .int .i64 y, .string ⟨k.toArray⟩, .bool true] 218)
 have hown := aC H1.out.1 hb
 have HA := Lib.hid (And.intro (iV (w1.alloc (.cells #[.int .i64 (c : Int), .int .i64 y, .string ⟨k.toArray⟩, .bool true] 218)) w.heap.size (.slice A1 1 c1) (.slice (some ⟨w1.heap.size, 0, none⟩) 1 1) [⟨c, x, k, false⟩] [⟨c, y, k, true⟩] (fun _ => True) hown (uY kx) (by simp) (by have := H1.out.2.size; have := hb.size; omega)) hb)
 clear hb kx hown
 go_wp2_with fail
 refine HA.out.1.mono ?_
 rintro e w2 ⟨v2, rfl, hown2, fq, FC⟩
 obtain ⟨A2, c2, rfl⟩ := ar hown2
 have H2 := Lib.hid (And.intro hown2 (show Below w.heap.size w w2 from (H1.out.2.trans (HA.out.2.mono H1.out.2.size)).trans (fq.au (Nat.le_trans H1.out.2.size HA.out.2.size) (fun k hk h => ?_))))
 rotate_left
 ·have := (H1.out.1.lt k h).1; omega
 clear hown2 fq FC HA
 go_wp2_with fail
 go_ret
 refine ⟨_, rfl, ?_, H2.out.2⟩
 have h := H2.out.1
 unfold gN
 simp only [H.out.2.1, H.out.2.2.2]
 exact h
def Ih (l : List Ch) (w : World) (e : Ending) (w' : World) : Prop := ∃ v, e = .returned (.tuple #[v, .int .i64 0]) /\ w'.ownsRow w.heap.size 218 4 v l.length (sF l) /\ Below w.heap.size w w'
theorem NZ {o n : Rw} (h : o.a = n.a /\ o.b = n.b /\ o.c = n.c /\ o.d = n.d) : o = n := by
 cases o; cases n; simp only at h; obtain ⟨rfl, rfl, rfl, rfl⟩ := h; rfl
theorem BJ {k : List UInt8} {o n : Rw} {c : Nat} (h : o.aG c = n.aG c) : DG k (some o) (some n) c = [] := if_pos h
theorem BK {k : List UInt8} (o : Rw) : ∀ c, gD k (some o) (some o) c = []
 | 0 => rfl
 | c + 1 => by rw [gD, BK o c, BJ rfl]; rfl
set_option maxHeartbeats 2000000 in
theorem zM (w : World) (k : List UInt8) (hk : 1 <= k.length /\ k.length <= 16) (nb : Nat) (n : Rw) (hn : w.heap[nb]? = some (.cells #[.int .i64 n.a, .int .i64 n.b, .int .i64 n.c, .int .i64 n.d] 26 (0, 0))) : Calls Tryz.prog 95 #[.string ⟨k.toArray⟩, .pointer none, .pointer (some ⟨nb, 0, none⟩)] w (Ih (E5 k none (some n)) w) := by
 have zB : cO k = 0 := by unfold cO; rw [if_neg (by omega)]
 have HC := Lib.hid (dE w k)
 rw [zB] at HC
 have HH := Lib.hid hn
 clear zB hk hn
 go_enter Tryz.func95, Tryz.ntmps95
 go_wp2_with fail
 refine HC.out.mono ?_
 rintro e w1 ⟨rfl, rfl⟩
 clear HC
 go_wp2_with fail
 go_quiet (fail)
 go_wp2_with fail
 go_loopw [10, 33] (fun v i wr => ∃ c : Nat, c <= 4 /\ i = .int .i64 (c : Int) /\ wr.ownsRow w.heap.size 218 4 v (gD k none (some n) c).length (sF (gD k none (some n) c)) /\ Below w.heap.size w wr) (fun _ i _ => 4 - (intOf i).toNat)
 case atStart => exact ⟨0, by decide, rfl, World.ownsRow_nil _ _ _ _, Only.au ((Only.refl (fun _ => False) w).drewN _) (Nat.le_refl _) (fun _ _ h => h)⟩
 case round =>
  obtain ⟨c, hc, rfl, hown, hb⟩ := hrel
  obtain ⟨A, cp, rfl⟩ := ar hown
  by_cases hlt : c < 4
  ·have i1 : (0 : Int) <= (c : Int) := by omega
   have i2 : (c : Int) < 4 := by omega
   have HW := Lib.hid (And.intro hown hb)
   have hlen := nD k none (some n) c
   obtain ⟨N, hN⟩ : ∃ N, (gD k none (some n) c).length = N := ⟨_, rfl⟩
   rw [hN] at hlen
   have HN := Lib.hid (And.intro hN hlen)
   rw [hN]
   clear hown hlen hN
   go_wp2_with fail
   go_quiet (fail)
   have zN : ∀ n, Below w.heap.size w (wr.drewN n) := fun n => Only.au ((Only.of_below hb (fun _ => False)).drewN n) (Nat.le_refl _) (fun _ _ h => h)
   go_wp2_with fail
   refine (C0 _ k c hlt nb n ((Only.of_below (zN _) (fun _ => False)).heap HH.out (fun h => h))).mono ?_
   rintro e w2 ⟨v2, rfl, hown2, hb2⟩
   obtain ⟨A2, c2, rfl⟩ := ar hown2
   obtain ⟨M2, pL⟩ : ∃ M, (gN k none (some n) c).length = M := ⟨_, rfl⟩
   have FD : M2 <= 2 := by rw [<- pL, <- l9 (fun o n h1 h2 => by cases h1)]; exact p7 k none (some n) c
   have kP : bE 4 w2 (fun _ => True) (.slice A2 (gN k none (some n) c).length c2) ((gN k none (some n) c).map Ch.cells) := bE.bC hown2 (oM _) (by decide) (fun _ _ => trivial)
   have pC : w2.ownsRow w.heap.size 218 4 (.slice A (gD k none (some n) c).length cp) (gD k none (some n) c).length (sF (gD k none (some n) c)) := aC (aU HW.out.1 ((Only.refl (fun _ => False) wr).drewN _) (fun _ _ h => h)) hb2
   have HA := Lib.hid (iV w2 w.heap.size _ _ (gD k none (some n) c) (gN k none (some n) c) (fun _ => True) pC kP (by rw [HN.out.1, pL]; have := HN.out.2; omega) (by have := HW.out.2.size; have := hb2.size; simp at this; omega))
   have nN := Lib.hid (show Below w.heap.size w w2 from (zN _).trans (hb2.mono (zN _).size))
   rw [HN.out.1] at HA
   rw [pL] at HA
   rw [pL]
   clear hown2 hb2 kP pC hb zN pL FD i1 i2
   go_wp2_with fail
   refine HA.out.mono ?_
   rintro e w3 ⟨v3, rfl, cX, vM, kq⟩
   obtain ⟨A3, c3, rfl⟩ := ar cX
   have H3 := Lib.hid (show w3.ownsRow w.heap.size 218 4 (.slice A3 (gD k none (some n) c ++ gN k none (some n) c).length c3) (gD k none (some n) (c + 1)).length (sF (gD k none (some n) (c + 1))) /\ Below w.heap.size w w3 from by
    have e : gD k none (some n) (c + 1) = gD k none (some n) c ++ gN k none (some n) c := by rw [gD, l9 (fun o n h1 h2 => by cases h1)]
    refine ⟨by rw [e]; exact cX, nN.out.trans (vM.au nN.out.size (fun g hg h => ?_))⟩
    have hlt := (HW.out.1.lt g (by rw [HN.out.1]; exact h)).1
    omega)
   clear cX vM kq HA
   go_wp2_with fail
   go_roundw
   case rel => exact ⟨c + 1, by omega, by go_num, by rw [<- List.length_append]; exact H3.out.1, H3.out.2⟩
   case measure => simp [intOf]; omega
  ·obtain rfl : c = 4 := by omega
   have HW := Lib.hid (And.intro hown hb)
   clear hown hb
   go_wp2_with fail
   go_ret2
   exact ⟨_, rfl, HW.out.1, HW.out.2⟩
set_option maxHeartbeats 2000000 in
theorem zO (w : World) (k : List UInt8) (hk : 1 <= k.length /\ k.length <= 16) (ob : Nat) (o : Rw) (ho : w.heap[ob]? = some (.cells #[.int .i64 o.a, .int .i64 o.b, .int .i64 o.c, .int .i64 o.d] 26 (0, 0))) : Calls Tryz.prog 95 #[.string ⟨k.toArray⟩, .pointer (some ⟨ob, 0, none⟩), .pointer none] w (Ih (E5 k (some o) none) w) := by
 have zB : cO k = 0 := by unfold cO; rw [if_neg (by omega)]
 have HC := Lib.hid (dE w k)
 rw [zB] at HC
 have HH := Lib.hid ho
 clear zB hk ho
 go_enter Tryz.func95, Tryz.ntmps95
 go_wp2_with fail
 refine HC.out.mono ?_
 rintro e w1 ⟨rfl, rfl⟩
 clear HC
 go_wp2_with fail
 go_quiet (fail)
 go_wp2_with fail
 go_loopw [10, 33] (fun v i wr => ∃ c : Nat, c <= 4 /\ i = .int .i64 (c : Int) /\ wr.ownsRow w.heap.size 218 4 v (gD k (some o) none c).length (sF (gD k (some o) none c)) /\ Below w.heap.size w wr) (fun _ i _ => 4 - (intOf i).toNat)
 case atStart => exact ⟨0, by decide, rfl, World.ownsRow_nil _ _ _ _, Only.au ((Only.refl (fun _ => False) w).drewN _) (Nat.le_refl _) (fun _ _ h => h)⟩
 case round =>
  obtain ⟨c, hc, rfl, hown, hb⟩ := hrel
  obtain ⟨A, cp, rfl⟩ := ar hown
  by_cases hlt : c < 4
  ·have i1 : (0 : Int) <= (c : Int) := by omega
   have i2 : (c : Int) < 4 := by omega
   have HW := Lib.hid (And.intro hown hb)
   have hlen := nD k (some o) none c
   obtain ⟨N, hN⟩ : ∃ N, (gD k (some o) none c).length = N := ⟨_, rfl⟩
   rw [hN] at hlen
   have HN := Lib.hid (And.intro hN hlen)
   rw [hN]
   clear hown hlen hN
   go_wp2_with fail
   go_quiet (fail)
   have zN : ∀ n, Below w.heap.size w (wr.drewN n) := fun n => Only.au ((Only.of_below hb (fun _ => False)).drewN n) (Nat.le_refl _) (fun _ _ h => h)
   go_wp2_with fail
   refine (C3 _ k c hlt ob o ((Only.of_below (zN _) (fun _ => False)).heap HH.out (fun h => h))).mono ?_
   rintro e w2 ⟨v2, rfl, hown2, hb2⟩
   obtain ⟨A2, c2, rfl⟩ := ar hown2
   obtain ⟨M2, pL⟩ : ∃ M, (gN k (some o) none c).length = M := ⟨_, rfl⟩
   have FD : M2 <= 2 := by rw [<- pL, <- l9 (fun o n h1 h2 => by cases h2)]; exact p7 k (some o) none c
   have kP : bE 4 w2 (fun _ => True) (.slice A2 (gN k (some o) none c).length c2) ((gN k (some o) none c).map Ch.cells) := bE.bC hown2 (oM _) (by decide) (fun _ _ => trivial)
   have pC : w2.ownsRow w.heap.size 218 4 (.slice A (gD k (some o) none c).length cp) (gD k (some o) none c).length (sF (gD k (some o) none c)) := aC (aU HW.out.1 ((Only.refl (fun _ => False) wr).drewN _) (fun _ _ h => h)) hb2
   have HA := Lib.hid (iV w2 w.heap.size _ _ (gD k (some o) none c) (gN k (some o) none c) (fun _ => True) pC kP (by rw [HN.out.1, pL]; have := HN.out.2; omega) (by have := HW.out.2.size; have := hb2.size; simp at this; omega))
   have nN := Lib.hid (show Below w.heap.size w w2 from (zN _).trans (hb2.mono (zN _).size))
   rw [HN.out.1] at HA
   rw [pL] at HA
   rw [pL]
   clear hown2 hb2 kP pC hb zN pL FD i1 i2
   go_wp2_with fail
   refine HA.out.mono ?_
   rintro e w3 ⟨v3, rfl, cX, vM, kq⟩
   obtain ⟨A3, c3, rfl⟩ := ar cX
   have H3 := Lib.hid (show w3.ownsRow w.heap.size 218 4 (.slice A3 (gD k (some o) none c ++ gN k (some o) none c).length c3) (gD k (some o) none (c + 1)).length (sF (gD k (some o) none (c + 1))) /\ Below w.heap.size w w3 from by
    have e : gD k (some o) none (c + 1) = gD k (some o) none c ++ gN k (some o) none c := by rw [gD, l9 (fun o n h1 h2 => by cases h2)]
    refine ⟨by rw [e]; exact cX, nN.out.trans (vM.au nN.out.size (fun g hg h => ?_))⟩
    have hlt := (HW.out.1.lt g (by rw [HN.out.1]; exact h)).1
    omega)
   clear cX vM kq HA
   go_wp2_with fail
   go_roundw
   case rel => exact ⟨c + 1, by omega, by go_num, by rw [<- List.length_append]; exact H3.out.1, H3.out.2⟩
   case measure => simp [intOf]; omega
  ·obtain rfl : c = 4 := by omega
   have HW := Lib.hid (And.intro hown hb)
   clear hown hb
   go_wp2_with fail
   go_ret2
   exact ⟨_, rfl, HW.out.1, HW.out.2⟩
set_option maxHeartbeats 2000000 in
theorem zP (w : World) (k : List UInt8) (hk : 1 <= k.length /\ k.length <= 16) (ob : Nat) (o : Rw) (ho : w.heap[ob]? = some (.cells #[.int .i64 o.a, .int .i64 o.b, .int .i64 o.c, .int .i64 o.d] 26 (0, 0))) (nb : Nat) (n : Rw) (hn : w.heap[nb]? = some (.cells #[.int .i64 n.a, .int .i64 n.b, .int .i64 n.c, .int .i64 n.d] 26 (0, 0))) : Calls Tryz.prog 95 #[.string ⟨k.toArray⟩, .pointer (some ⟨ob, 0, none⟩), .pointer (some ⟨nb, 0, none⟩)] w (Ih (E5 k (some o) (some n)) w) := by
 have zB : cO k = 0 := by unfold cO; rw [if_neg (by omega)]
 have HC := Lib.hid (dE w k)
 rw [zB] at HC
 have HH := Lib.hid (And.intro ho hn)
 clear zB hk ho hn
 go_enter Tryz.func95, Tryz.ntmps95
 go_wp2_with fail
 refine HC.out.mono ?_
 rintro e w1 ⟨rfl, rfl⟩
 clear HC
 go_wp2_with fail
 obtain ⟨⟨x0, x1, x2, x3⟩, -⟩ := bG HH.out.1
 obtain ⟨⟨y0, y1, y2, y3⟩, -⟩ := bG HH.out.2
 have heq := fun (w : World) => Vx w o.a o.b o.c o.d n.a n.b n.c n.d
 have hg := Tryz.KE
 by_cases hq : o = n
 ·subst hq
  go_quiet (fail)
  go_wp2_with fail
  go_ret2
  refine ⟨_, rfl, ?_, Only.au ((Only.refl (fun _ => False) w).drewN _) (Nat.le_refl _) (fun _ _ h => h)⟩
  unfold E5
  rw [BK]
  exact World.ownsRow_nil _ _ _ _
 ·have BL : (decide (o.a = n.a) && (decide (o.b = n.b) && (decide (o.c = n.c) && decide (o.d = n.d)))) = false := by
   rw [Bool.eq_false_iff]
   intro h
   simp only [Bool.and_eq_true, decide_eq_true_eq] at h
   exact hq (NZ h)
  clear hq
  go_quiet (fail)
  clear x0 x1 x2 x3 y0 y1 y2 y3 heq hg BL
  go_wp2_with fail
  go_loopw [10, 33] (fun v i wr => ∃ c : Nat, c <= 4 /\ i = .int .i64 (c : Int) /\ wr.ownsRow w.heap.size 218 4 v (gD k (some o) (some n) c).length (sF (gD k (some o) (some n) c)) /\ Below w.heap.size w wr) (fun _ i _ => 4 - (intOf i).toNat)
  case atStart => exact ⟨0, by decide, rfl, World.ownsRow_nil _ _ _ _, Only.au ((Only.refl (fun _ => False) w).drewN _) (Nat.le_refl _) (fun _ _ h => h)⟩
  case round =>
   obtain ⟨c, hc, rfl, hown, hb⟩ := hrel
   obtain ⟨A, cp, rfl⟩ := ar hown
   by_cases hlt : c < 4
   ·have i1 : (0 : Int) <= (c : Int) := by omega
    have i2 : (c : Int) < 4 := by omega
    have HW := Lib.hid (And.intro hown hb)
    have hlen := nD k (some o) (some n) c
    obtain ⟨N, hN⟩ : ∃ N, (gD k (some o) (some n) c).length = N := ⟨_, rfl⟩
    rw [hN] at hlen
    have HN := Lib.hid (And.intro hN hlen)
    rw [hN]
    clear hown hlen hN
    have z0 := aF ((Only.of_below hb (fun _ => False)).heap HH.out.1 (fun h => h)) hlt
    have y0 := aF ((Only.of_below hb (fun _ => False)).heap HH.out.2 (fun h => h)) hlt
    obtain ⟨x, hx⟩ : ∃ x, o.aG c = x := ⟨_, rfl⟩
    obtain ⟨y, hy⟩ : ∃ y, n.aG c = y := ⟨_, rfl⟩
    rw [hx] at z0
    rw [hy] at y0
    by_cases hxy : x = y
    ·subst hxy
     have HE := Lib.hid (show o.aG c = n.aG c from hx.trans hy.symm)
     clear hx hy
     go_wp2_with fail
     go_quiet (fail)
     go_wp2_with fail
     go_roundw
     case rel =>
      refine ⟨c + 1, by omega, by go_num, ?_, Only.au ((Only.of_below hb (fun _ => False)).drewN _) (Nat.le_refl _) (fun _ _ h => h)⟩
      rw [gD, BJ HE.out, List.append_nil, <- HN.out.1]
      exact aU HW.out.1 ((Only.refl (fun _ => False) wr).drewN _) (fun _ _ h => h)
     case measure => simp [intOf]; omega
    ·have HE := Lib.hid (show o.aG c ≠ n.aG c from by rw [hx, hy]; exact hxy)
     have FE : (x == y) = false := by simpa using hxy
     clear hx hy
     go_wp2_with fail
     go_quiet (fail)
     have zN : ∀ n, Below w.heap.size w (wr.drewN n) := fun n => Only.au ((Only.of_below hb (fun _ => False)).drewN n) (Nat.le_refl _) (fun _ _ h => h)
     go_wp2_with fail
     refine (C4 _ k c hlt ob o ((Only.of_below (zN _) (fun _ => False)).heap HH.out.1 (fun h => h)) nb n ((Only.of_below (zN _) (fun _ => False)).heap HH.out.2 (fun h => h))).mono ?_
     rintro e w2 ⟨v2, rfl, hown2, hb2⟩
     obtain ⟨A2, c2, rfl⟩ := ar hown2
     obtain ⟨M2, pL⟩ : ∃ M, (gN k (some o) (some n) c).length = M := ⟨_, rfl⟩
     have FD : M2 <= 2 := by rw [<- pL, <- l9 (fun o n h1 h2 => by cases h1; cases h2; exact HE.out)]; exact p7 k (some o) (some n) c
     have kP : bE 4 w2 (fun _ => True) (.slice A2 (gN k (some o) (some n) c).length c2) ((gN k (some o) (some n) c).map Ch.cells) := bE.bC hown2 (oM _) (by decide) (fun _ _ => trivial)
     have pC : w2.ownsRow w.heap.size 218 4 (.slice A (gD k (some o) (some n) c).length cp) (gD k (some o) (some n) c).length (sF (gD k (some o) (some n) c)) := aC (aU HW.out.1 ((Only.refl (fun _ => False) wr).drewN _) (fun _ _ h => h)) hb2
     have HA := Lib.hid (iV w2 w.heap.size _ _ (gD k (some o) (some n) c) (gN k (some o) (some n) c) (fun _ => True) pC kP (by rw [HN.out.1, pL]; have := HN.out.2; omega) (by have := HW.out.2.size; have := hb2.size; simp at this; omega))
     have nN := Lib.hid (show Below w.heap.size w w2 from (zN _).trans (hb2.mono (zN _).size))
     rw [HN.out.1] at HA
     rw [pL] at HA
     rw [pL]
     clear z0 y0 hxy FE hown2 hb2 kP pC hb zN pL FD i1 i2
     go_wp2_with fail
     refine HA.out.mono ?_
     rintro e w3 ⟨v3, rfl, cX, vM, kq⟩
     obtain ⟨A3, c3, rfl⟩ := ar cX
     have H3 := Lib.hid (show w3.ownsRow w.heap.size 218 4 (.slice A3 (gD k (some o) (some n) c ++ gN k (some o) (some n) c).length c3) (gD k (some o) (some n) (c + 1)).length (sF (gD k (some o) (some n) (c + 1))) /\ Below w.heap.size w w3 from by
      have e : gD k (some o) (some n) (c + 1) = gD k (some o) (some n) c ++ gN k (some o) (some n) c := by rw [gD, l9 (fun o n h1 h2 => by cases h1; cases h2; exact HE.out)]
      refine ⟨by rw [e]; exact cX, nN.out.trans (vM.au nN.out.size (fun g hg h => ?_))⟩
      have hlt := (HW.out.1.lt g (by rw [HN.out.1]; exact h)).1
      omega)
     clear cX vM kq HA
     go_wp2_with fail
     go_roundw
     case rel => exact ⟨c + 1, by omega, by go_num, by rw [<- List.length_append]; exact H3.out.1, H3.out.2⟩
     case measure => simp [intOf]; omega
   ·obtain rfl : c = 4 := by omega
    have HW := Lib.hid (And.intro hown hb)
    clear hown hb
    go_wp2_with fail
    go_ret2
    exact ⟨_, rfl, HW.out.1, HW.out.2⟩
theorem KH (a b : List UInt8) : (⟨a.toArray⟩ : ByteArray) ++ ⟨b.toArray⟩ = ⟨(a ++ b).toArray⟩ := by
 apply ByteArray.ext
 simp
def FH (n k : Nat) : List Value := List.replicate (8 - k) (.int .u8 0) ++ (be k (n % 256 ^ k)).map B8
theorem Ii {n k : Nat} (hk : k <= 8) : (FH n k).length = 8 := by simp [FH, yL]; omega
theorem Ij (n : Nat) {k j : Nat} (hk : k + j = 7) : (FH n k).toArray.setIfInBounds j (B8 (UInt8.ofNat (n / 256 ^ k % 256))) = (FH n (k + 1)).toArray := by
 have hj : 8 - k = j + 1 := by omega
 have Tu : 8 - (k + 1) = j := by omega
 have hb : be (k + 1) (n % 256 ^ (k + 1)) = UInt8.ofNat (n / 256 ^ k % 256) :: be k (n % 256 ^ k) := by
  rw [be]
  have h1 : n % 256 ^ (k + 1) / 256 ^ k = n / 256 ^ k % 256 := by rw [Nat.pow_succ, Nat.mod_mul_right_div_self]
  have h2 : n % 256 ^ (k + 1) % 256 ^ k = n % 256 ^ k := Nat.mod_mod_of_dvd _ (Nat.pow_dvd_pow 256 (by omega))
  rw [h1, h2]
 unfold FH
 rw [hj, Tu, hb, List.replicate_succ', List.setIfInBounds_toArray]
 congr 1
 rw [List.append_assoc, List.set_append_right _ _ (by simp), List.length_replicate, Nat.sub_self]
 simp
theorem N0 {w : World} {B : Nat} {a0 a1 a2 a3 a4 a5 a6 a7 v0 v1 v2 v3 v4 v5 v6 v7 : Value} {t : TypeId} (h : w.heap[B]? = some (.cells #[a0, a1, a2, a3, a4, a5, a6, a7] t (0, 0))) :
  ((((((((w.setCell ⟨B, 0, none⟩ v0).setCell ⟨B, 1, none⟩ v1).setCell ⟨B, 2, none⟩ v2).setCell ⟨B, 3, none⟩ v3).setCell ⟨B, 4, none⟩ v4).setCell ⟨B, 5, none⟩ v5).setCell ⟨B, 6, none⟩ v6).setCell ⟨B, 7, none⟩ v7).heap[B]? = some (.cells #[v0, v1, v2, v3, v4, v5, v6, v7] t (0, 0)) := by
 have h0 := heap_setCell_same w B 0 _ t v0 h
 have h1 := heap_setCell_same _ B 1 _ t v1 h0
 have h2 := heap_setCell_same _ B 2 _ t v2 h1
 have h3 := heap_setCell_same _ B 3 _ t v3 h2
 have h4 := heap_setCell_same _ B 4 _ t v4 h3
 have h5 := heap_setCell_same _ B 5 _ t v5 h4
 have h6 := heap_setCell_same _ B 6 _ t v6 h5
 have h7 := heap_setCell_same _ B 7 _ t v7 h6
 simpa using h7
theorem Jx {α : Type} {l : List α} (h : l.length = 8) : ∃ a b c d e f g i, l = [a, b, c, d, e, f, g, i] := by
 match l, h with
 | [a, b, c, d, e, f, g, i], _ => exact ⟨a, b, c, d, e, f, g, i, rfl⟩
theorem KI (n : Int) (hn : I6 n) : (FH (n + 9223372036854775808).toNat 8) = (pfx n).map B8 := by
 unfold FH pfx
 rw [Nat.mod_eq_of_lt]
 ·rfl
 ·have := hn.1; have := hn.2
  rw [show (256 : Nat) ^ 8 = 18446744073709551616 by decide]
  omega
set_option maxHeartbeats 2000000 in
theorem C5 (w : World) (n : Int) (hn : I6 n) : Calls Tryz.prog 170 #[.int .i64 n] w fun e w' => e = .returned (.agg ((pfx n).map B8).toArray) /\ Below w.heap.size w w' := by
 obtain ⟨N, hN⟩ : ∃ N, (n + 9223372036854775808).toNat = N := ⟨_, rfl⟩
 have VA : N < 18446744073709551616 := by have := hn.1; have := hn.2; omega
 have HW := Lib.hid (show IntKind.u64.wrap (IntKind.u64.wrap n + 9223372036854775808) = (N : Int) by rw [IntKind.wrap_u64, IntKind.wrap_u64]; have := hn.1; have := hn.2; omega)
 have HP := Lib.hid (KI n hn)
 rw [hN] at HP
 have hb0 := ag w (.cells #[.int .u8 0, .int .u8 0, .int .u8 0, .int .u8 0, .int .u8 0, .int .u8 0, .int .u8 0, .int .u8 0] 281)
 have k0 := heap_alloc_new w (.cells #[.int .u8 0, .int .u8 0, .int .u8 0, .int .u8 0, .int .u8 0, .int .u8 0, .int .u8 0, .int .u8 0] 281)
 go_enter Tryz.func170, Tryz.ntmps170
 go_upto_region 1 with fail
 generalize w.alloc (.cells #[.int .u8 0, .int .u8 0, .int .u8 0, .int .u8 0, .int .u8 0, .int .u8 0, .int .u8 0, .int .u8 0] 281) = w1 at hb0 k0 ⊢
 obtain ⟨R, hR⟩ : ∃ x, w.heap.size = x := ⟨_, rfl⟩
 rw [hR] at k0 ⊢
 have hb1 := ag w1 (.cells #[.int .u8 0, .int .u8 0, .int .u8 0, .int .u8 0, .int .u8 0, .int .u8 0, .int .u8 0, .int .u8 0] 281)
 have k1 := heap_alloc_new w1 (.cells #[.int .u8 0, .int .u8 0, .int .u8 0, .int .u8 0, .int .u8 0, .int .u8 0, .int .u8 0, .int .u8 0] 281)
 have Kv := (Only.of_below hb1 (fun _ => False)).heap k0 (fun h => h)
 go_upto_region 2 with fail
 generalize w1.alloc (.cells #[.int .u8 0, .int .u8 0, .int .u8 0, .int .u8 0, .int .u8 0, .int .u8 0, .int .u8 0, .int .u8 0] 281) = w2 at hb1 k1 Kv ⊢
 obtain ⟨B, hB⟩ : ∃ x, w1.heap.size = x := ⟨_, rfl⟩
 rw [hB] at k1 ⊢
 have Tv : R < B := by have := aJ k0; omega
 have H := Lib.hid (show Below w.heap.size w w2 /\ w2.heap[B]? = some (.cells (FH N 0).toArray 281 (0, 0)) /\ w2.heap[R]? = some (.cells #[.int .u8 0, .int .u8 0, .int .u8 0, .int .u8 0, .int .u8 0, .int .u8 0, .int .u8 0, .int .u8 0] 281 (0, 0)) /\ R < B /\ w.heap.size <= R from
  ⟨hb0.trans (hb1.mono hb0.size), k1, Kv, Tv, by omega⟩)
 have HN := Lib.hid (And.intro hN VA)
 clear hb0 k0 hR hb1 k1 Kv hB Tv hN hn
 go_wp2_with fail
 go_loopw [4, 9] (fun n i wr => ∃ k M : Nat, k <= 8 /\ i = .int .i64 (k : Int) /\ n = .int .u64 (M : Int) /\ N / 256 ^ k = M /\ wr.heap[B]? = some (.cells (FH N k).toArray 281 (0, 0)) /\ Only (fun k => k = B) w2 wr) (fun _ i _ => 8 - (intOf i).toNat)
 case atStart => exact ⟨0, N, by decide, rfl, by rw [HW.out], by simp, H.out.2.1, Only.refl _ _⟩
 case round =>
  obtain ⟨k, M, hk, rfl, rfl, Tw, ov, yG⟩ := hrel
  by_cases hlt : k < 8
  ·obtain ⟨j, hj⟩ : ∃ j, k + j = 7 := ⟨7 - k, by omega⟩
   have Tu : (7 : Int) - (k : Int) = (j : Int) := by omega
   have hM : N / 256 ^ k < 18446744073709551616 := Nat.lt_of_le_of_lt (Nat.div_le_self _ _) HN.out.2
   have FI : N / 256 ^ k / 256 = N / 256 ^ (k + 1) := by rw [Nat.pow_succ, Nat.div_div_eq_div_mul]
   obtain ⟨x, hx⟩ : ∃ x, B8 (UInt8.ofNat (N / 256 ^ k % 256)) = x := ⟨_, rfl⟩
   have ya := Ij N hj
   rw [Tw] at hM FI ya hx
   obtain ⟨d, hd⟩ : ∃ d, M % 256 = d := ⟨_, rfl⟩
   have lq : d < 256 := by omega
   have e1 : bits .and .u64 (M : Int) 255 = (d : Int) := by
    have := u64_and_nat M 255 hM (by decide)
    rw [show ((255 : Nat) : Int) = 255 from rfl] at this
    rw [this, <- hd]
    congr 1
    exact Nat.and_two_pow_sub_one_eq_mod M 8
   have e2 : (d : Int) % 256 = (d : Int) := by omega
   have e3 : B8 (UInt8.ofNat d) = .int .u8 (d : Int) := by simp [B8]; omega
   rw [hd] at ya hx
   rw [e3] at ya
   obtain ⟨cv, hcv⟩ : ∃ v, (FH N k).toArray[j]? = some v := ⟨_, Array.getElem?_eq_getElem (by simp [Ii hk]; omega)⟩
   have z0 : wr.cell? ⟨B, j, none⟩ = some cv := by simp [World.cell?, ov, hcv]
   have z1 : wr.frozen? ⟨B, j, none⟩ = false := by simp [World.frozen?, ov]
   have i1 : (0 : Int) <= (j : Int) := by omega
   have i2 : (j : Int) < 8 := by omega
   have WH : k <= 7 := by omega
   have HK := Lib.hid (show (wr.setCell ⟨B, j, none⟩ (.int .u8 (d : Int))).heap[B]? = some (.cells (FH N (k + 1)).toArray 281 (0, 0)) /\ Only (fun k => k = B) w2 (wr.setCell ⟨B, j, none⟩ (.int .u8 (d : Int))) /\ M / 256 = N / 256 ^ (k + 1) from by
    refine ⟨?_, yG.trans (dF wr B j _) (fun _ _ h => h), FI⟩
    rw [heap_setCell_same wr B j _ _ (.int .u8 (d : Int)) ov, ya])
   clear ov yG ya hcv FI Tw hd hM hx e3 hj
   go_wp2_with fail
   go_roundw
   case rel => exact ⟨k + 1, M / 256, by omega, by go_num, by simp, HK.out.2.2.symm, HK.out.1, HK.out.2.1⟩
   case measure => simp [intOf]; omega
  ·obtain rfl : k = 8 := by omega
   have kR := yG.heap H.out.2.2.1 (fun e => by have := H.out.2.2.2.1; omega)
   rw [HP.out] at ov
   obtain ⟨x0, x1, x2, x3, x4, x5, x6, x7, hl⟩ := Jx (lU n)
   have HL := Lib.hid hl
   rw [hl] at ov
   simp only [List.map_cons, List.map_nil, B8] at ov
   have g0 : wr.cell? ⟨B, 0, none⟩ = some (.int .u8 x0.toNat) := by simp [World.cell?, ov]
   have g1 : wr.cell? ⟨B, 1, none⟩ = some (.int .u8 x1.toNat) := by simp [World.cell?, ov]
   have g2 : wr.cell? ⟨B, 2, none⟩ = some (.int .u8 x2.toNat) := by simp [World.cell?, ov]
   have g3 : wr.cell? ⟨B, 3, none⟩ = some (.int .u8 x3.toNat) := by simp [World.cell?, ov]
   have g4 : wr.cell? ⟨B, 4, none⟩ = some (.int .u8 x4.toNat) := by simp [World.cell?, ov]
   have g5 : wr.cell? ⟨B, 5, none⟩ = some (.int .u8 x5.toNat) := by simp [World.cell?, ov]
   have g6 : wr.cell? ⟨B, 6, none⟩ = some (.int .u8 x6.toNat) := by simp [World.cell?, ov]
   have g7 : wr.cell? ⟨B, 7, none⟩ = some (.int .u8 x7.toNat) := by simp [World.cell?, ov]
   have y0 : wr.cell? ⟨R, 0, none⟩ = some (.int .u8 0) := by simp [World.cell?, kR]
   have y1 : wr.cell? ⟨R, 1, none⟩ = some (.int .u8 0) := by simp [World.cell?, kR]
   have y2 : wr.cell? ⟨R, 2, none⟩ = some (.int .u8 0) := by simp [World.cell?, kR]
   have y3 : wr.cell? ⟨R, 3, none⟩ = some (.int .u8 0) := by simp [World.cell?, kR]
   have y4 : wr.cell? ⟨R, 4, none⟩ = some (.int .u8 0) := by simp [World.cell?, kR]
   have y5 : wr.cell? ⟨R, 5, none⟩ = some (.int .u8 0) := by simp [World.cell?, kR]
   have y6 : wr.cell? ⟨R, 6, none⟩ = some (.int .u8 0) := by simp [World.cell?, kR]
   have y7 : wr.cell? ⟨R, 7, none⟩ = some (.int .u8 0) := by simp [World.cell?, kR]
   have u0 : wr.frozen? ⟨R, 0, none⟩ = false := by simp [World.frozen?, kR]
   have u1 : wr.frozen? ⟨R, 1, none⟩ = false := by simp [World.frozen?, kR]
   have u2 : wr.frozen? ⟨R, 2, none⟩ = false := by simp [World.frozen?, kR]
   have u3 : wr.frozen? ⟨R, 3, none⟩ = false := by simp [World.frozen?, kR]
   have u4 : wr.frozen? ⟨R, 4, none⟩ = false := by simp [World.frozen?, kR]
   have u5 : wr.frozen? ⟨R, 5, none⟩ = false := by simp [World.frozen?, kR]
   have u6 : wr.frozen? ⟨R, 6, none⟩ = false := by simp [World.frozen?, kR]
   have u7 : wr.frozen? ⟨R, 7, none⟩ = false := by simp [World.frozen?, kR]
   have H6 := Lib.hid (And.intro kR yG)
   clear ov kR yG hl
   go_wp2_with fail
   have p8 := N0 (v0 := .int .u8 x0.toNat) (v1 := .int .u8 x1.toNat) (v2 := .int .u8 x2.toNat) (v3 := .int .u8 x3.toNat) (v4 := .int .u8 x4.toNat) (v5 := .int .u8 x5.toNat) (v6 := .int .u8 x6.toNat) (v7 := .int .u8 x7.toNat) H6.out.1
   have ho := (((((((dF wr R 0 (.int .u8 x0.toNat)).setCell (p := ⟨R, 1, none⟩) (fun _ => rfl) (.int .u8 x1.toNat)).setCell (p := ⟨R, 2, none⟩) (fun _ => rfl) (.int .u8 x2.toNat)).setCell (p := ⟨R, 3, none⟩) (fun _ => rfl) (.int .u8 x3.toNat)).setCell (p := ⟨R, 4, none⟩) (fun _ => rfl) (.int .u8 x4.toNat)).setCell (p := ⟨R, 5, none⟩) (fun _ => rfl) (.int .u8 x5.toNat)).setCell (p := ⟨R, 6, none⟩) (fun _ => rfl) (.int .u8 x6.toNat)).setCell (p := ⟨R, 7, none⟩) (fun _ => rfl) (.int .u8 x7.toNat)
   have HO := Lib.hid (And.intro p8 ho)
   clear p8 ho
   generalize ((((((((wr.setCell ⟨R, 0, none⟩ (.int .u8 x0.toNat)).setCell ⟨R, 1, none⟩ (.int .u8 x1.toNat)).setCell ⟨R, 2, none⟩ (.int .u8 x2.toNat)).setCell ⟨R, 3, none⟩ (.int .u8 x3.toNat)).setCell ⟨R, 4, none⟩ (.int .u8 x4.toNat)).setCell ⟨R, 5, none⟩ (.int .u8 x5.toNat)).setCell ⟨R, 6, none⟩ (.int .u8 x6.toNat)).setCell ⟨R, 7, none⟩ (.int .u8 x7.toNat)) = w7 at HO ⊢
   refine bodyPost_ret (results_cell_row rfl _ _ _ _ _ _ _ rfl HO.out.1 Tryz.underlying281 rfl (by kernel_rfl)) rfl ⟨by rw [HL.out]; rfl, ?_⟩
   exact H.out.1.trans ((H6.out.2.mono (T := fun k => k = B \/ k = R) (fun _ _ h => .inl h)).trans (HO.out.2.mono (T := fun k => k = B \/ k = R) (fun _ _ h => .inr h)) (fun _ _ h => h) |>.au H.out.1.size (fun k hk h => by have := H.out.2.2.2; omega))
set_option maxHeartbeats 1000000 in
theorem C6 (w : World) (n : Int) (hn : I6 n) : Calls Tryz.prog 142 #[.int .i64 n] w fun e w' => e = .returned (.string ⟨(pfx n).toArray⟩) /\ Below w.heap.size w w' := by
 have HC := Lib.hid (C5 w n hn)
 obtain ⟨x0, x1, x2, x3, x4, x5, x6, x7, hl⟩ := Jx (lU n)
 rw [hl] at HC ⊢
 simp only [List.map_cons, List.map_nil, B8] at HC
 have hc := fun (w : World) (F : Nat -> Prop) (A : Option Addr) (c : Nat) (h : Rd w F (.slice A 8 c) ([x0, x1, x2, x3, x4, x5, x6, x7].map B8)) => uR (P := Tryz.prog) 118 9 5 Tryz.underlying118 Tryz.underlying5 Tryz.underlying9 h
 have HV := Lib.hid hc
 clear hl hn hc
 go_enter Tryz.func142, Tryz.ntmps142
 go_wp2_with fail
 refine HC.out.mono ?_
 rintro e w1 ⟨rfl, hb⟩
 have hb1 := ag w1 (.cells #[.int .u8 x0.toNat, .int .u8 x1.toNat, .int .u8 x2.toNat, .int .u8 x3.toNat, .int .u8 x4.toNat, .int .u8 x5.toNat, .int .u8 x6.toNat, .int .u8 x7.toNat] 281)
 have k1 := heap_alloc_new w1 (.cells #[.int .u8 x0.toNat, .int .u8 x1.toNat, .int .u8 x2.toNat, .int .u8 x3.toNat, .int .u8 x4.toNat, .int .u8 x5.toNat, .int .u8 x6.toNat, .int .u8 x7.toNat] 281)
 have kP : Rd (w1.alloc (.cells #[.int .u8 x0.toNat, .int .u8 x1.toNat, .int .u8 x2.toNat, .int .u8 x3.toNat, .int .u8 x4.toNat, .int .u8 x5.toNat, .int .u8 x6.toNat, .int .u8 x7.toNat] 281)) (fun _ => True) (.slice (some ⟨w1.heap.size, 0, none⟩) 8 8) ([x0, x1, x2, x3, x4, x5, x6, x7].map B8) := by
  refine ⟨_, 8, 8, rfl, rfl, Nat.le_refl _, by simp [maxLen], fun _ => ⟨_, 0, rfl, trivial, fun j u hj => ?_⟩⟩
  rw [World.cell?, k1]
  have h2 : (#[.int .u8 x0.toNat, .int .u8 x1.toNat, .int .u8 x2.toNat, .int .u8 x3.toNat, .int .u8 x4.toNat, .int .u8 x5.toNat, .int .u8 x6.toNat, .int .u8 x7.toNat] : Array Value).toList = [x0, x1, x2, x3, x4, x5, x6, x7].map B8 := rfl
  rw [<- h2] at hj
  simpa using hj
 have hcv := HV.out _ _ _ _ kP
 have HB := Lib.hid (hb.trans (hb1.mono hb.size))
 clear hb hb1 k1 kP HC HV
 go_wp2_with fail
 go_ret
 exact ⟨rfl, HB.out⟩
set_option maxHeartbeats 1000000 in
theorem zQ (w : World) (v : Int) (k : List UInt8) (hv : I6 v) (hk : 1 <= k.length /\ k.length <= 16) : Calls Tryz.prog 96 #[.agg #[.int .i64 v, .string ⟨k.toArray⟩]] w fun e w' => e = .returned (.tuple #[.string ⟨(iM v k).toArray⟩, .int .i64 0]) /\ Below w.heap.size w w' := by
 have hb0 := ag w (.cells #[.int .i64 v, .string ⟨k.toArray⟩] 216)
 have k0 := heap_alloc_new w (.cells #[.int .i64 v, .string ⟨k.toArray⟩] 216)
 have zB : cO k = 0 := by unfold cO; rw [if_neg (by omega)]
 go_enter Tryz.func96, Tryz.ntmps96
 go_upto_region 1 with fail
 generalize w.alloc (.cells #[.int .i64 v, .string ⟨k.toArray⟩] 216) = w1 at hb0 k0 ⊢
 obtain ⟨R, hR⟩ : ∃ x, w.heap.size = x := ⟨_, rfl⟩
 rw [hR] at k0 ⊢
 have z0 : w1.cell? ⟨R, 0, none⟩ = some (.int .i64 v) := by simp [World.cell?, k0]
 have z1 : w1.cell? ⟨R, 1, none⟩ = some (.string ⟨k.toArray⟩) := by simp [World.cell?, k0]
 have HC := Lib.hid (dE w1 k)
 rw [zB] at HC
 have H0 := Lib.hid (And.intro hb0 k0)
 have HV := Lib.hid hv
 have HK := Lib.hid hk
 clear hb0 k0 zB hv hk
 go_wp2_with fail
 refine HC.out.mono ?_
 rintro e w2 ⟨rfl, hw2⟩
 obtain rfl : w1 = w2 := hw2
 clear HC
 go_wp2_with fail
 have HP := Lib.hid (fun w => C6 w v HV.out)
 have hlen : ¬ 9223372036854775807 < (pfx v).length + k.length := by rw [lU]; have := HK.out; omega
 refine wp_region_held_drew (S := (fun W => Below w1.heap.size w1 W /\ W.cell? ⟨R, 0, none⟩ = some (.int .i64 v) /\ W.cell? ⟨R, 1, none⟩ = some (.string ⟨k.toArray⟩))) (by kernel_rfl) ⟨(Below.refl _ _).drew, z0, z1⟩ (fun hHeld => ?_)
 refine aO [0, 1, 3, 4] ?_
 iterate 4 (refine cI (v := ?_) (fun wS hSw => ?_) hHeld ?_; rotate_left; (obtain ⟨s0, s1, s2⟩ := hSw; go_simp; try with_reducible rfl); try simp only [av, ax, ay, az])
 refine aP ?_
 refine bg 2 (fun K hK => ?_)
 go_simp
 refine (HP.out _).mono ?_
 rintro e wn ⟨rfl, dU⟩
 try go_simp
 refine hK.out _ _ (JQ hHeld dU) (fun ae => ?_)
 clear hK K hHeld dU
 have hHeld := ae
 clear ae
 try simp only [av, ax, ay, az]
 refine aO [5, 6, 7] ?_
 iterate 3 (refine cI (v := ?_) (fun wS hSw => ?_) hHeld ?_; rotate_left; (obtain ⟨s0, s1, s2⟩ := hSw; go_simp; try with_reducible rfl); try simp only [av, ax, ay, az])
 refine aP ?_
 refine wpAnyH_done (by kernel_rfl) ?_ _
 obtain ⟨hbz, -, -⟩ := hHeld
 go_wp2_with fail
 go_ret2
 refine ⟨?_, H0.out.1.trans (hbz.mono H0.out.1.size)⟩
 unfold iM
 rw [<- KH]
 rfl
end Go.Proofs.YtagemonojdgbdaaGreatDoor
