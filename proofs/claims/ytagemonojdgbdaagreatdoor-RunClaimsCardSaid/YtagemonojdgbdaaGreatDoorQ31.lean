import Derived.Test.YtagemonojdgbdaaGreatDoorQ23
import Derived.Test.YtagemonojdgbdaaGreatDoorQ30
namespace Go.Proofs.YtagemonojdgbdaaGreatDoor
set_option maxRecDepth 100000
open Go.RowKit
section
open Go.RowKit Go.Maps Go.WideShapes
abbrev Ir := List (List UInt8 × Option Rw)
def Pq (w : World) (FR : Nat -> Prop) : Option Value -> Option (Option Rw) -> Prop
 | none, none => True
 | some v, some x => rD w v x /\ ∀ b, v = .pointer (some ⟨b, 0, none⟩) -> FR b
 | _, _ => False
structure Iu (w : World) (B T : Nat) (most : Int) (o : Nat) (l : aW) (wl : Ir) (FT : Nat -> Nat -> Prop) (m n : Nat) (g : Value -> Option Value) (FR : Nat -> Prop) : Prop where
 blk : w.heap[B]? = some (.cells #[.pointer (some ⟨T, 0, none⟩), .map (some m)] 109 (0, 0))
 map : fy Tryz.prog w 9 m n g
 tab : cM w T most o l FT
 up : lg wl
 key : ∀ q ∈ wl, 1 <= q.1.length /\ q.1.length <= 16
 fit : ∀ q ∈ wl, ∀ r, q.2 = some r -> ∀ c, I6 (r.aG c)
 wr : ∀ k : List UInt8, Pq w FR (g (.string ⟨k.toArray⟩)) (aI k wl)
 bB : ∀ q, ¬ FT B q
 bm : ∀ q, ¬ FT m q
 bR : ∀ b, FR b -> b ≠ B /\ b ≠ m /\ b < w.heap.size /\ ∀ q, ¬ FT b q
 Bm : B ≠ m
def gP (w : World) (B T : Nat) (most : Int) (o : Nat) (l : aW) (wl : Ir) (FT : Nat -> Nat -> Prop) (FB : Nat -> Prop) : Prop :=
 ∃ m n g FR, Iu w B T most o l wl FT m n g FR /\ FB B /\ FB m /\ ∀ b, FR b -> FB b
section
variable {w w' : World} {B T o : Nat} {most : Int} {l : aW} {wl : Ir} {FT : Nat -> Nat -> Prop} {FB S : Nat -> Prop} {m n : Nat} {g : Value -> Option Value} {FR : Nat -> Prop}
theorem Pq.only {a : Option Value} {b : Option (Option Rw)} (h : Pq w FR a b) (ho : Only S w w') (hd : ∀ b, FR b -> ¬ S b) : Pq w' FR a b := by
 match a, b, h with
 | none, none, _ => trivial
 | some v, some x, h => exact ⟨h.1.only ho (fun b e => hd b (h.2 b e)), h.2⟩
theorem Iu.only (h : Iu w B T most o l wl FT m n g FR) (ho : Only S w w') (hB : ¬ S B) (hm : ¬ S m) (hR : ∀ b, FR b -> ¬ S b) (hT : ∀ b q, FT b q -> ¬ S b) : Iu w' B T most o l wl FT m n g FR :=
 ⟨ho.heap h.blk hB, h.map.only ho hm, h.tab.eP ho hT, h.up, h.key, h.fit, fun k => (h.wr k).only ho hR, h.bB, h.bm, fun b hb => ⟨(h.bR b hb).1, (h.bR b hb).2.1, Nat.lt_of_lt_of_le (h.bR b hb).2.2.1 ho.size, (h.bR b hb).2.2.2⟩, h.Bm⟩
theorem gP.only (h : gP w B T most o l wl FT FB) (ho : Only S w w') (hB : ∀ b, FB b -> ¬ S b) (hT : ∀ b q, FT b q -> ¬ S b) : gP w' B T most o l wl FT FB := by
 obtain ⟨m, n, g, FR, h1, h2, h3, h4⟩ := h
 exact ⟨m, n, g, FR, h1.only ho (hB B h2) (hB m h3) (fun b hb => hB b (h4 b hb)) hT, h2, h3, h4⟩
theorem gP.below (h : gP w B T most o l wl FT FB) (hb : Below w.heap.size w w') : gP w' B T most o l wl FT FB := h.only (Only.of_below hb (fun _ => False)) (fun _ _ h => h) (fun _ _ _ h => h)
end
theorem zT (w : World) (T o : Nat) (most : Int) (l : aW) (FT : Nat -> Nat -> Prop) (h : cM w T most o l FT) (hF : ∀ b q, FT b q -> b < w.heap.size) : Calls Tryz.prog 8 #[.pointer (some ⟨T, 0, none⟩)] w fun e w' =>
  ∃ B, e = .returned (.tuple #[.pointer (some ⟨B, 0, none⟩), .int .i64 0]) /\ gP w' B T most o l [] FT (fun b => w.heap.size <= b) /\ Below w.heap.size w w' := by
 have hmm := @run_makeMap Tryz.prog
 have hm := fy.made Tryz.prog w 9
 have hb := ag w (.map #[] 0)
 have hb2 := ag (w.alloc (.map #[] 0)) (.cells #[.pointer (some ⟨T, 0, none⟩), .map (some w.heap.size)] 109)
 have k2 := heap_alloc_new (w.alloc (.map #[] 0)) (.cells #[.pointer (some ⟨T, 0, none⟩), .map (some w.heap.size)] 109)
 have H := Lib.hid (show ∃ B, B = w.heap.size + 1 /\ gP ((w.alloc (.map #[] 0)).alloc (.cells #[.pointer (some ⟨T, 0, none⟩), .map (some w.heap.size)] 109)) B T most o l [] FT (fun b => w.heap.size <= b) /\ Below w.heap.size w ((w.alloc (.map #[] 0)).alloc (.cells #[.pointer (some ⟨T, 0, none⟩), .map (some w.heap.size)] 109)) from
  ⟨_, rfl, ⟨w.heap.size, 0, fun _ => none, fun _ => False, ⟨by simpa using k2, hm.below hb2, (h.below hb).below hb2, List.Pairwise.nil, fun q hq => by simp at hq, fun q hq => by simp at hq, fun k => trivial,
   fun q hq => by have := hF _ q hq; omega, fun q hq => by have := hF _ q hq; omega, fun b hb => hb.elim, by omega⟩, by omega, Nat.le_refl _, fun b hb => hb.elim⟩, hb.trans (hb2.mono (by simp))⟩)
 clear h hm hb hb2 k2
 go_enter Tryz.func8, Tryz.ntmps8
 go_wp2_with fail
 go_ret2
 obtain ⟨B, e, h4, h5⟩ := H.out
 subst e
 exact ⟨_, rfl, h4, h5⟩
def eK (k : List UInt8) (wl : Ir) (l : aW) : Option Rw := match aI k wl with
 | some x => x
 | none => aI k l
set_option maxHeartbeats 2000000 in
theorem ma (w : World) (B T o : Nat) (most : Int) (l : aW) (wl : Ir) (FT : Nat -> Nat -> Prop) (FB : Nat -> Prop) (k : List UInt8) (hk : 1 <= k.length /\ k.length <= 16) (h : gP w B T most o l wl FT FB) :
  Calls Tryz.prog 38 #[.pointer (some ⟨B, 0, none⟩), .string ⟨k.toArray⟩] w (BP (eK k wl l) w) := by
 have hb0 := ag w (.cells #[.int .i64 0, .int .i64 0, .int .i64 0, .int .i64 0] 26)
 have k0 := heap_alloc_new w (.cells #[.int .i64 0, .int .i64 0, .int .i64 0, .int .i64 0] 26)
 obtain ⟨m, n, g, FR, hW0, hW1⟩ := h
 have TF : ∀ b, FR b -> b < w.heap.size := fun b hb => (hW0.bR b hb).2.2.1
 have h1 := hW0.only (Only.of_below hb0 (fun _ => False)) (fun h => h) (fun h => h) (fun _ _ h => h) (fun _ _ _ h => h)
 clear hW0 hW1
 go_enter Tryz.func38, Tryz.ntmps38
 go_upto_region 1 with fail
 generalize w.alloc (.cells #[.int .i64 0, .int .i64 0, .int .i64 0, .int .i64 0] 26) = w1 at hb0 k0 h1 ⊢
 obtain ⟨A, hA⟩ : ∃ x, w.heap.size = x := ⟨_, rfl⟩
 rw [hA] at k0 ⊢
 have HA := Lib.hid (And.intro hA (And.intro hb0 k0))
 have hW := h1
 have Oa : ∀ b, FR b -> ¬ b = A := fun b hb e => by have := TF b hb; have := HA.out.1; omega
 clear h1 TF
 have g1 := hW.blk
 have d0 : w1.cell? ⟨B, 0, none⟩ = some (.pointer (some ⟨T, 0, none⟩)) := by simp [World.cell?, g1]
 have d1 : w1.cell? ⟨B, 1, none⟩ = some (.map (some m)) := by simp [World.cell?, g1]
 have HC := Lib.hid (dE w1 k)
 rw [uZ hk] at HC
 have HM := Lib.hid (And.intro hW.map (Nq (k := k) (by simp [maxLen]; omega)))
 have hwr := hW.wr k
 have HW := Lib.hid (And.intro hW hk)
 clear hW g1 hk hb0 k0 hA
 go_wp2_with fail
 refine HC.out.mono ?_
 rintro e w2 ⟨rfl, rfl⟩
 clear HC
 cases hq : aI k wl with
 | none =>
  have HQ := Lib.hid (show eK k wl l = aI k l by unfold eK; rw [hq])
  rw [hq] at hwr
  obtain ⟨gv, yH⟩ : ∃ x, g (.string ⟨k.toArray⟩) = x := ⟨_, rfl⟩
  rw [yH] at hwr
  cases gv with
  | some v => exact hwr.elim
  | none =>
   have HG := Lib.hid (C8 w1 T o most l FT k HW.out.1.tab HW.out.2)
   clear hq hwr
   go_wp2_with (first | (at_lookup; go_loud (refine fH (key := .string ⟨k.toArray⟩) _ rfl _ _ 107 rfl Hy Tryz.underlying107 (Tryz.nH _) rfl HM.out.1 rfl HM.out.2 (.pointer none) false (by rw [yH]; rfl) (by rw [yH]; rfl) ?_)) | fail)
   refine HG.out.mono ?_
   rintro e w3 ⟨rfl, hb⟩
   have k3 := (Only.of_below hb (fun _ => False)).heap HA.out.2.2 (fun h => h)
   have HB := Lib.hid (And.intro hb k3)
   obtain ⟨⟨z0, z1, z2, z3⟩, y0, y1, y2, y3⟩ := bG k3
   obtain ⟨⟨ra, rb, rc, rd⟩, hr⟩ : ∃ r, (aI k l).getD .zero = r := ⟨_, rfl⟩
   obtain ⟨E, hE⟩ : ∃ E : Int, (if (aI k l).isSome = true then 0 else 14) = E := ⟨_, rfl⟩
   rw [hr, hE]
   unfold Rw.val
   have HR := Lib.hid (And.intro hr hE)
   clear hb k3 hr hE yH
   go_wp2_with fail
   have HO := Lib.hid (bb (v0 := .int .i64 ra) (v1 := .int .i64 rb) (v2 := .int .i64 rc) (v3 := .int .i64 rd) HB.out.2)
   generalize ((((w3.setCell ⟨A, 0, none⟩ (.int .i64 ra)).setCell ⟨A, 1, none⟩ (.int .i64 rb)).setCell ⟨A, 2, none⟩ (.int .i64 rc)).setCell ⟨A, 3, none⟩ (.int .i64 rd)) = w4 at HO ⊢
   refine bodyPost_ret (aA rfl _ _ _ _ _ _ _ rfl HO.out.1 Tryz.underlying26 rfl (by kernel_rfl)) rfl ⟨?_, ?_⟩
   ·rw [HQ.out, HR.out.1, HR.out.2]; rfl
   ·have h3 : Below w.heap.size w w3 := HA.out.2.1.trans (HB.out.1.mono HA.out.2.1.size)
    exact h3.trans (HO.out.2.au h3.size (fun k hk h => by have := HA.out.1; omega))
 | some x =>
  have HQ := Lib.hid (show eK k wl l = x by unfold eK; rw [hq])
  rw [hq] at hwr
  obtain ⟨gv, yH⟩ : ∃ x, g (.string ⟨k.toArray⟩) = x := ⟨_, rfl⟩
  rw [yH] at hwr
  cases gv with
  | none => exact hwr.elim
  | some v =>
   obtain ⟨⟨z0, z1, z2, z3⟩, y0, y1, y2, y3⟩ := bG HA.out.2.2
   cases x with
   | none =>
    obtain rfl := hwr.1
    clear hq hwr
    go_wp2_with (first | (at_lookup; go_loud (refine fH (key := .string ⟨k.toArray⟩) _ rfl _ _ 107 rfl Hy Tryz.underlying107 (Tryz.nH _) rfl HM.out.1 rfl HM.out.2 (.pointer none) true (by rw [yH]; rfl) (by rw [yH]; rfl) ?_)) | fail)
    have HO := Lib.hid (bb (v0 := .int .i64 0) (v1 := .int .i64 0) (v2 := .int .i64 0) (v3 := .int .i64 0) HA.out.2.2)
    generalize ((((w1.setCell ⟨A, 0, none⟩ (.int .i64 0)).setCell ⟨A, 1, none⟩ (.int .i64 0)).setCell ⟨A, 2, none⟩ (.int .i64 0)).setCell ⟨A, 3, none⟩ (.int .i64 0)) = w4 at HO ⊢
    refine bodyPost_ret (aA rfl _ _ _ _ _ _ _ rfl HO.out.1 Tryz.underlying26 rfl (by kernel_rfl)) rfl ⟨by rw [HQ.out]; rfl, ?_⟩
    exact HA.out.2.1.trans (HO.out.2.au HA.out.2.1.size (fun k hk h => by have := HA.out.1; omega))
   | some r =>
    obtain ⟨⟨b, rfl, DK⟩, LR⟩ := hwr
    obtain ⟨ra, rb, rc, rd⟩ := r
    obtain ⟨⟨x0, x1, x2, x3⟩, -⟩ := bG DK
    have hbl := (HW.out.1.bR b (LR b rfl)).2.2.1
    have WK : ¬ b = A := Oa b (LR b rfl)
    clear hq LR hbl DK Oa
    go_wp2_with (first | (at_lookup; go_loud (refine fH (key := .string ⟨k.toArray⟩) _ rfl _ _ 107 rfl Hy Tryz.underlying107 (Tryz.nH _) rfl HM.out.1 rfl HM.out.2 (.pointer (some ⟨b, 0, none⟩)) true (by rw [yH]; rfl) (by rw [yH]; rfl) ?_)) | fail)
    have HO := Lib.hid (bb (v0 := .int .i64 ra) (v1 := .int .i64 rb) (v2 := .int .i64 rc) (v3 := .int .i64 rd) HA.out.2.2)
    generalize ((((w1.setCell ⟨A, 0, none⟩ (.int .i64 ra)).setCell ⟨A, 1, none⟩ (.int .i64 rb)).setCell ⟨A, 2, none⟩ (.int .i64 rc)).setCell ⟨A, 3, none⟩ (.int .i64 rd)) = w4 at HO ⊢
    refine bodyPost_ret (aA rfl _ _ _ _ _ _ _ rfl HO.out.1 Tryz.underlying26 rfl (by kernel_rfl)) rfl ⟨by rw [HQ.out]; rfl, ?_⟩
    exact HA.out.2.1.trans (HO.out.2.au HA.out.2.1.size (fun k hk h => by have := HA.out.1; omega))
end
theorem gQ {P : Program} {w : World} {ops : Array Oper} {o : Oper} {a : Act} {K : Act -> World -> Prop} {Q : Exit -> Act -> World -> Prop} {E : Prop} (hgd : o.guard = none) (s x : Operand) (t : TypeId)
  (ho : o.op = .call { callee := .builtin .append, args := #[s, x], argTypes := #[t, t] })
  (base : Nat) (e : TypeId) (i : TypeInfo) (z : Value) (k bytes : Nat) (ht : P.underlying t = some (.slice e)) (hi : P.info? e = some i) (hz : i.zero = some z)
  (hsize : i.size = k) (hby : i.bytes = bytes) (hzs : z.cells.size = k) (dW : 0 < k)
  (v : Value) (n : Nat) (xs : List Value) (hs : a.eval s = v) (hown : w.ownsRow base e k v n xs) (F : Nat -> Prop) (vx : Value) (news : List (List Value)) (hx : a.eval x = vx) (hr : bE k w F vx news) (hk : ∀ y ∈ news, y.length = k) (h1 : ∀ u ∈ news.flatten, u.oneCell' = true)
  (hbytes : (n + news.length) * bytes <= 140737488355328) (h63 : n + news.length <= maxLen) (hbase : base <= w.heap.size)
  (h : ∀ v' w', w'.ownsRow base e k v' (n + news.length) (xs ++ news.flatten) -> w.grownBy w' v.ownBlock -> (v'.ownBlock = v.ownBlock \/ v'.ownBlock = some w.heap.size) -> K (a.put o.dst v') w') :
  if Region.wanted o (yielded ops a.tmps) = true then Oper.wp P o a w K Q else E := by
 have hw : Region.wanted o (yielded ops a.tmps) = true := by simp [Region.wanted, hgd]
 rw [if_pos hw]
 obtain ⟨v', w', hrun, h2, h3, h4⟩ := iQ (P := P) w base t o.type e i z k bytes ht hi hz hsize hby hzs dW v n xs hown F vx news hr hk h1 hbytes h63 hbase
 unfold Oper.wp execOp
 simp only [ho, resolve, invoke, builtin, Sem.run_bind, Sem.run_pure, Result.andThen_ok, List.map_toArray, List.map_cons, List.map_nil, hs, hx, hrun]
 exact h v' w' h2 h3 h4
def sH (l : List Cl) : List Value := (l.map Cl.cells).flatten
theorem BR (l m : List Cl) : sH (l ++ m) = sH l ++ sH m := by simp [sH]
theorem iD {w : World} {X base : Nat} {x : Cl} (h : w.heap[X]? = some (.cells #[.bool x.wr, .int .i64 x.aG, .string ⟨x.key.toArray⟩, .int .i64 x.lo, .int .i64 x.hi] 48 (0, 0))) (hb : base <= X) : w.ownsRow base 48 5 (.slice (some ⟨X, 0, none⟩) 1 1) 1 (sH [x]) := by
 refine ⟨by simp [sH, Cl.cells], .inr ⟨X, 1, _, rfl, hb, h, Nat.le_refl _, by simp [maxLen], rfl, ?_⟩⟩
 simp [sH, Cl.cells]
theorem gY {w : World} {X : Nat} {x : Cl} (h : w.heap[X]? = some (.cells #[.bool x.wr, .int .i64 x.aG, .string ⟨x.key.toArray⟩, .int .i64 x.lo, .int .i64 x.hi] 48 (0, 0))) : bE 5 w (fun _ => True) (.slice (some ⟨X, 0, none⟩) 1 1) ([x].map Cl.cells) :=
 bE.bC (iD h (Nat.zero_le _)) (bI _) (by decide) (fun _ _ => trivial)
def Iw (l : List Cl) (w : World) (e : Ending) (w' : World) : Prop := ∃ v, e = .returned (.tuple #[v, .int .i64 0]) /\ w'.ownsRow w.heap.size 48 5 v l.length (sH l) /\ Below w.heap.size w w'
def vP (w : World) (X R : Nat) (old now : Rw) (v : Value) (l : List Cl) (wr : World) : Prop :=
 wr.ownsRow w.heap.size 48 5 v l.length (sH l) /\ (∀ g, v.ownBlock = some g -> g ≠ X /\ g ≠ R) /\ Below w.heap.size w wr /\ wr.heap[X]? = some (.cells #[.int .i64 old.a, .int .i64 old.b, .int .i64 old.c, .int .i64 old.d] 26 (0, 0)) /\
  wr.heap[R]? = some (.cells #[.int .i64 now.a, .int .i64 now.b, .int .i64 now.c, .int .i64 now.d] 26 (0, 0))
theorem vP.still {w wr w1 : World} {X R : Nat} {old now : Rw} {v : Value} {l : List Cl} (h : vP w X R old now v l wr) (hb : Below wr.heap.size wr w1) : vP w X R old now v l w1 := by
 obtain ⟨h1, h2, h3, h4, h5⟩ := h
 exact ⟨aC h1 hb, h2, h3.trans (hb.mono h3.size), (Only.of_below hb (fun _ => False)).heap h4 (fun h => h), (Only.of_below hb (fun _ => False)).heap h5 (fun h => h)⟩
theorem vP.more {w wr w1 w2 : World} {X R Y : Nat} {old now : Rw} {v v' : Value} {l : List Cl} {x : Cl} (h : vP w X R old now v l wr) (hb : Below wr.heap.size wr w1) (hown : w2.ownsRow w.heap.size 48 5 v' (l.length + 1) (sH l ++ ([x].map Cl.cells).flatten))
  (hg : w1.grownBy w2 v.ownBlock) (hat : v'.ownBlock = v.ownBlock \/ v'.ownBlock = some Y) (hY : w1.heap.size <= Y) : vP w X R old now v' (l ++ [x]) w2 := by
 obtain ⟨h1, h2, h3, h4, h5⟩ := h
 have k4 := (Only.of_below hb (fun _ => False)).heap h4 (fun h => h)
 have k5 := (Only.of_below hb (fun _ => False)).heap h5 (fun h => h)
 have ho := Only.of_grownBy hg
 refine ⟨by rw [BR, List.length_append]; exact hown, fun g yH => ?_, (h3.trans (hb.mono h3.size)).trans (ho.au (Nat.le_trans h3.size hb.size) (fun k hk e => ?_)), ho.heap k4 (fun e => (h2 X e).1 rfl), ho.heap k5 (fun e => (h2 R e).2 rfl)⟩
 ·rcases hat with e | e
  ·exact h2 g (by rw [<- e]; exact yH)
  ·rw [yH] at e
   injection e with e
   have := aJ k4
   have := aJ k5
   exact ⟨by omega, by omega⟩
 ·have := (h1.lt k e).1
  omega
set_option maxHeartbeats 4000000 in
theorem vg (w : World) (B T o : Nat) (most : Int) (l : aW) (wl : Ir) (FT : Nat -> Nat -> Prop) (FB : Nat -> Prop) (k : List UInt8) (hk : 1 <= k.length /\ k.length <= 16) (h : gP w B T most o l wl FT FB) (old : Rw) (now : Rw) (hq : eK k wl l = (some old)) :
  Calls Tryz.prog 10 #[.int .i64 10, .pointer (some ⟨B, 0, none⟩), .string ⟨k.toArray⟩, now.val] w (Iw (dZ k (some old) none) w) := by
 obtain ⟨i0, hi, hz0, hz1, hz2⟩ := info_parts Tryz.fZ
 have HI := Lib.hid hi
 obtain ⟨na, nb, nc, nd⟩ := now
 unfold Rw.val
 have hb0 := ag w (.cells #[.int .i64 na, .int .i64 nb, .int .i64 nc, .int .i64 nd] 26)
 have k0 := heap_alloc_new w (.cells #[.int .i64 na, .int .i64 nb, .int .i64 nc, .int .i64 nd] 26)
 have HG := Lib.hid (fun w' (h' : gP w' B T most o l wl FT FB) => ma w' B T o most l wl FT FB k hk h')
 have h1 := h.below hb0
 rw [hq] at HG
 clear h hk hq hi
 go_enter Tryz.func10, Tryz.ntmps10
 go_upto_region 1 with fail
 generalize w.alloc (.cells #[.int .i64 na, .int .i64 nb, .int .i64 nc, .int .i64 nd] 26) = w1 at hb0 k0 h1 ⊢
 obtain ⟨R, hR⟩ : ∃ x, w.heap.size = x := ⟨_, rfl⟩
 rw [hR] at k0 ⊢
 have HC := Lib.hid (HG.out w1 h1)
 have H1 := Lib.hid (And.intro hb0 (And.intro k0 hR))
 clear hb0 k0 h1 hR HG
 go_wp2_with fail
 refine HC.out.mono ?_
 rintro e w2 ⟨rfl, hb2⟩
 obtain ⟨oa, ob, oc, od⟩ := old
 simp only [Option.getD_some, Option.isSome_some, if_true]
 unfold Rw.val
 have eU := ag w2 (.cells #[.int .i64 oa, .int .i64 ob, .int .i64 oc, .int .i64 od] 26)
 have kx := heap_alloc_new w2 (.cells #[.int .i64 oa, .int .i64 ob, .int .i64 oc, .int .i64 od] 26)
 have hb3 := (hb2.trans (eU.mono hb2.size))
 have kr := (Only.of_below hb3 (fun _ => False)).heap H1.out.2.1 (fun h => h)
 have HX := Lib.hid (And.intro (H1.out.1.trans (hb3.mono H1.out.1.size)) (And.intro kx kr))
 clear hb2 eU kx hb3 kr HC
 go_upto_region 6 with fail
 have rE := HX.out
 clear HX
 generalize w2.alloc (.cells #[.int .i64 oa, .int .i64 ob, .int .i64 oc, .int .i64 od] 26) = w3 at rE ⊢
 obtain ⟨X, hX⟩ : ∃ x, w2.heap.size = x := ⟨_, rfl⟩
 rw [hX] at rE ⊢
 have HX := Lib.hid (show Below w.heap.size w w3 /\ w3.heap[X]? = some (.cells #[.int .i64 oa, .int .i64 ob, .int .i64 oc, .int .i64 od] 26 (0, 0)) /\ w3.heap[R]? = some (.cells #[.int .i64 na, .int .i64 nb, .int .i64 nc, .int .i64 nd] 26 (0, 0)) from rE)
 clear rE hX
 have hby := ag w3 (.cells #[.bool true, .int .i64 (-1), .string ⟨k.toArray⟩, .int .i64 0, .int .i64 0] 48)
 have ky := heap_alloc_new w3 (.cells #[.bool true, .int .i64 (-1), .string ⟨k.toArray⟩, .int .i64 0, .int .i64 0] 48)
 have hs3 : w.heap.size <= w3.heap.size := HX.out.1.size
 have jy := Lib.hid (show vP w X R ⟨oa, ob, oc, od⟩ ⟨na, nb, nc, nd⟩ (.slice (some ⟨w3.heap.size, 0, none⟩) 1 1) [⟨true, -1, k, 0, 0⟩] (w3.alloc (.cells #[.bool true, .int .i64 (-1), .string ⟨k.toArray⟩, .int .i64 0, .int .i64 0] 48)) from by
  have g4 := (Only.of_below hby (fun _ => False)).heap HX.out.2.1 (fun h => h)
  have g5 := (Only.of_below hby (fun _ => False)).heap HX.out.2.2 (fun h => h)
  have l4 := aJ HX.out.2.1
  have l5 := aJ HX.out.2.2
  exact ⟨iD (x := ⟨true, -1, k, 0, 0⟩) ky hs3, fun g hg => by have hg2 : some w3.heap.size = some g := hg; injection hg2 with hg2; exact ⟨by omega, by omega⟩, HX.out.1.trans (hby.mono hs3), g4, g5⟩)
 clear hby ky
 have hbz := ag (w3.alloc (.cells #[.bool true, .int .i64 (-1), .string ⟨k.toArray⟩, .int .i64 0, .int .i64 0] 48)) (.cells #[.bool true, .int .i64 (-1), .string ⟨#[35]⟩, .int .i64 0, .int .i64 0] 48)
 have kz := heap_alloc_new (w3.alloc (.cells #[.bool true, .int .i64 (-1), .string ⟨k.toArray⟩, .int .i64 0, .int .i64 0] 48)) (.cells #[.bool true, .int .i64 (-1), .string ⟨#[35]⟩, .int .i64 0, .int .i64 0] 48)
 rw [show (w3.alloc (.cells #[.bool true, .int .i64 (-1), .string ⟨k.toArray⟩, .int .i64 0, .int .i64 0] 48)).heap.size = w3.heap.size + 1 by simp] at kz
 have HZ := Lib.hid (And.intro hbz (And.intro (gY (x := ⟨true, -1, [35], 0, 0⟩) kz) (aC jy.out.1 hbz)))
 clear hbz kz
 go_upto_region 10 with (at_builtin; go_loud (refine aH _ rfl _ _ 37 rfl w.heap.size 48 i0 _ 5 48 Tryz.underlying37 HI.out hz0 hz1 hz2 rfl (by decide) _ 1 (sH [⟨true, -1, k, 0, 0⟩]) rfl HZ.out.2.2 (fun _ => True) (.slice (some ⟨w3.heap.size + 1, 0, none⟩) 1 1) ([⟨true, -1, [35], 0, 0⟩].map Cl.cells) rfl HZ.out.2.1 (bI _) (eQ _) (by decide) (by decide) (by have := jy.out.2.2.1.size; have := HZ.out.1.size; omega) ?_); intro v4 w4 yh rF FK)
 have H4 := Lib.hid (jy.out.more HZ.out.1 yh rF FK (Nat.le_refl _))
 clear yh rF FK
 have HS := Lib.hid (show vP w X R ⟨oa, ob, oc, od⟩ ⟨na, nb, nc, nd⟩ _ (aL k (some ⟨oa, ob, oc, od⟩) none 0) w4 from H4.out)
 clear H4
 go_wp2_with fail
 go_loopw [14, 44] (fun v i wr => ∃ c : Nat, c <= 4 /\ i = .int .i64 (c : Int) /\ vP w X R ⟨oa, ob, oc, od⟩ ⟨na, nb, nc, nd⟩ v (aL k (some ⟨oa, ob, oc, od⟩) none c) wr) (fun _ i _ => 4 - (intOf i).toNat)
 case atStart => exact ⟨0, by decide, rfl, HS.out⟩
 case round =>
  obtain ⟨c, hc, rfl, gS⟩ := hrel
  have hlen := dI k (some ⟨oa, ob, oc, od⟩) none c
  have HW := Lib.hid (And.intro gS hlen)
  by_cases hlt : c < 4
  ·have i1 : (0 : Int) <= (c : Int) := by omega
   have i2 : (c : Int) < 4 := by omega
   have z0 := aF (r := ⟨oa, ob, oc, od⟩) gS.2.2.2.1 hlt
   have y0 := aF (r := ⟨na, nb, nc, nd⟩) gS.2.2.2.2 hlt
   obtain ⟨x, hx⟩ : ∃ x, Rw.aG ⟨oa, ob, oc, od⟩ c = x := ⟨_, rfl⟩
   obtain ⟨y, hy⟩ : ∃ y, Rw.aG ⟨na, nb, nc, nd⟩ c = y := ⟨_, rfl⟩
   rw [hx] at z0
   rw [hy] at y0
   have HV := Lib.hid (And.intro hx hy)
   clear gS hlen
   clear hx hy
   go_wp2_with fail
   go_quiet (fail)
   rename_i nq
   clear z0 y0
   have HA := Lib.hid (HW.out.1.still (show Below wr.heap.size wr (wr.drewN nq) from Only.au ((Only.refl (fun _ => False) wr).drewN nq) (Nat.le_refl _) (fun _ _ h => h)))
   generalize wr.drewN nq = wa at HA ⊢
   go_upto_region 15 with fail
   have HD := Lib.hid (HA.out.still (show Below wa.heap.size wa wa.drew from (Below.refl _ _).drew))
   refine wp_region_held_drew (S := (fun W => W.heap[X]? = some (.cells #[.int .i64 oa, .int .i64 ob, .int .i64 oc, .int .i64 od] 26 (0, 0)) /\ W.heap[R]? = some (.cells #[.int .i64 na, .int .i64 nb, .int .i64 nc, .int .i64 nd] 26 (0, 0)))) (by kernel_rfl) ⟨HA.out.2.2.2.1, HA.out.2.2.2.2⟩ (fun hHeld => ?_)
   generalize wa.drew = wd at HD hHeld ⊢
   refine aO [0, 1, 2, 3] ?_
   iterate 4 (refine cI (v := ?_) (fun wS hSw => ?_) hHeld ?_; rotate_left; (obtain ⟨s0, s1⟩ := hSw; go_simp; try with_reducible rfl); try simp only [av, ax, ay, az])
   refine aP ?_
   refine fL 4 (v := ?_) (fun wS hSw => ?_) hHeld ?_
   rotate_left
   ·obtain ⟨s0, s1⟩ := hSw; have q0 := aF (r := ⟨oa, ob, oc, od⟩) s0 hlt; rw [HV.out.1] at q0; go_simp; try with_reducible rfl
   try simp only [av, ax, ay, az]
   refine aO [5, 6] ?_
   iterate 2 (refine cI (v := ?_) (fun wS hSw => ?_) hHeld ?_; rotate_left; (obtain ⟨s0, s1⟩ := hSw; go_simp; try with_reducible rfl); try simp only [av, ax, ay, az])
   refine aP ?_
   refine fL 7 (v := ?_) (fun wS hSw => ?_) hHeld ?_
   rotate_left
   ·obtain ⟨s0, s1⟩ := hSw; have q0 := aF (r := ⟨oa, ob, oc, od⟩) s0 hlt; rw [HV.out.1] at q0; go_simp; try with_reducible rfl
   try simp only [av, ax, ay, az]
   refine fL 8 (v := ?_) (fun wS hSw => ?_) hHeld ?_
   rotate_left
   ·obtain ⟨s0, s1⟩ := hSw; go_simp; try with_reducible rfl
   try simp only [av, ax, ay, az]
   refine bg 9 (fun K hK => ?_)
   go_simp
   refine hK.out _ _ (⟨(Only.of_below (ag _ _) (fun _ => False)).heap hHeld.1 (fun h => h), (Only.of_below (ag _ _) (fun _ => False)).heap hHeld.2 (fun h => h)⟩) (fun ae => ?_)
   clear hK K hHeld 
   have hHeld := ae
   clear ae
   try simp only [av, ax, ay, az]
   have dU := ag wd (.cells #[.bool true, .int .i64 (c : Int), .string ⟨#[]⟩, .int .i64 x, .int .i64 x] 48)
   have HN := Lib.hid (And.intro dU (And.intro (gY (x := ⟨true, (c : Int), [], x, x⟩) (heap_alloc_new wd (.cells #[.bool true, .int .i64 (c : Int), .string ⟨#[]⟩, .int .i64 x, .int .i64 x] 48))) (aC HD.out.1 dU)))
   clear dU
   refine bg 10 (fun K hK => ?_)
   refine gQ rfl _ _ 37 rfl w.heap.size 48 i0 _ 5 48 Tryz.underlying37 HI.out hz0 hz1 hz2 rfl (by decide) _ _ _ rfl HN.out.2.2 (fun _ => True) (.slice (some ⟨wd.heap.size, 0, none⟩) 1 1) ([⟨true, (c : Int), [], x, x⟩].map Cl.cells) rfl HN.out.2.1 (bI _) (eQ _) (by have := HW.out.2; simp; omega) (by have := HW.out.2; simp [maxLen]; omega) (by have := HD.out.2.2.1.size; have := HN.out.1.size; omega) ?_
   intro v6 w6 fA iX lD
   have pE := Lib.hid (HD.out.more (x := ⟨true, (c : Int), [], x, x⟩) HN.out.1 fA iX lD (Nat.le_refl _))
   clear fA iX lD HN HD
   refine hK.out _ _ (⟨pE.out.2.2.2.1, pE.out.2.2.2.2⟩) (fun ae => ?_)
   clear hK K hHeld 
   have hHeld := ae
   clear ae
   try simp only [av, ax, ay, az]
   refine fL 11 (v := ?_) (fun wS hSw => ?_) hHeld ?_
   rotate_left
   ·obtain ⟨s0, s1⟩ := hSw; go_simp; try with_reducible rfl
   try simp only [av, ax, ay, az]
   refine wpAnyH_done (by kernel_rfl) ?_ _
   clear hHeld
   go_wp2_with fail
   go_roundw
   case rel =>
    refine ⟨c + 1, by omega, by go_num, ?_⟩
    have e : aL k (some ⟨oa, ob, oc, od⟩) none (c + 1) = aL k (some ⟨oa, ob, oc, od⟩) none c ++ [⟨true, (c : Int), [], x, x⟩] := by
     rw [aL]
     congr 1
     unfold mM
     simp only [HV.out.1]
    rw [e]
    have h := pE.out
    skip
    exact h
   case measure => simp [intOf]; omega
  ·obtain rfl : c = 4 := by omega
   clear gS hlen
   go_wp2_with fail
   go_ret2
   have e := eB k (some ⟨oa, ob, oc, od⟩) none
   have h := HW.out.1
   rw [e] at h
   exact ⟨_, rfl, h.1, h.2.2.1⟩
set_option maxHeartbeats 4000000 in
theorem vh (w : World) (B T o : Nat) (most : Int) (l : aW) (wl : Ir) (FT : Nat -> Nat -> Prop) (FB : Nat -> Prop) (k : List UInt8) (hk : 1 <= k.length /\ k.length <= 16) (h : gP w B T most o l wl FT FB) (now : Rw) (hq : eK k wl l = none) :
  Calls Tryz.prog 10 #[.int .i64 9, .pointer (some ⟨B, 0, none⟩), .string ⟨k.toArray⟩, now.val] w (Iw (dZ k none (some now)) w) := by
 obtain ⟨i0, hi, hz0, hz1, hz2⟩ := info_parts Tryz.fZ
 have HI := Lib.hid hi
 obtain ⟨na, nb, nc, nd⟩ := now
 unfold Rw.val
 have hb0 := ag w (.cells #[.int .i64 na, .int .i64 nb, .int .i64 nc, .int .i64 nd] 26)
 have k0 := heap_alloc_new w (.cells #[.int .i64 na, .int .i64 nb, .int .i64 nc, .int .i64 nd] 26)
 have HG := Lib.hid (fun w' (h' : gP w' B T most o l wl FT FB) => ma w' B T o most l wl FT FB k hk h')
 have h1 := h.below hb0
 rw [hq] at HG
 clear h hk hq hi
 go_enter Tryz.func10, Tryz.ntmps10
 go_upto_region 1 with fail
 generalize w.alloc (.cells #[.int .i64 na, .int .i64 nb, .int .i64 nc, .int .i64 nd] 26) = w1 at hb0 k0 h1 ⊢
 obtain ⟨R, hR⟩ : ∃ x, w.heap.size = x := ⟨_, rfl⟩
 rw [hR] at k0 ⊢
 have HC := Lib.hid (HG.out w1 h1)
 have H1 := Lib.hid (And.intro hb0 (And.intro k0 hR))
 clear hb0 k0 h1 hR HG
 go_wp2_with fail
 refine HC.out.mono ?_
 rintro e w2 ⟨rfl, hb2⟩
 simp only [Option.getD_none, Option.isSome_none, Bool.false_eq_true, if_false, Rw.zero]
 unfold Rw.val
 have eU := ag w2 (.cells #[.int .i64 0, .int .i64 0, .int .i64 0, .int .i64 0] 26)
 have kx := heap_alloc_new w2 (.cells #[.int .i64 0, .int .i64 0, .int .i64 0, .int .i64 0] 26)
 have hb3 := (hb2.trans (eU.mono hb2.size))
 have kr := (Only.of_below hb3 (fun _ => False)).heap H1.out.2.1 (fun h => h)
 have HX := Lib.hid (And.intro (H1.out.1.trans (hb3.mono H1.out.1.size)) (And.intro kx kr))
 clear hb2 eU kx hb3 kr HC
 go_upto_region 6 with fail
 have rE := HX.out
 clear HX
 generalize w2.alloc (.cells #[.int .i64 0, .int .i64 0, .int .i64 0, .int .i64 0] 26) = w3 at rE ⊢
 obtain ⟨X, hX⟩ : ∃ x, w2.heap.size = x := ⟨_, rfl⟩
 rw [hX] at rE ⊢
 have HX := Lib.hid (show Below w.heap.size w w3 /\ w3.heap[X]? = some (.cells #[.int .i64 0, .int .i64 0, .int .i64 0, .int .i64 0] 26 (0, 0)) /\ w3.heap[R]? = some (.cells #[.int .i64 na, .int .i64 nb, .int .i64 nc, .int .i64 nd] 26 (0, 0)) from rE)
 clear rE hX
 have hby := ag w3 (.cells #[.bool true, .int .i64 (-1), .string ⟨k.toArray⟩, .int .i64 0, .int .i64 0] 48)
 have ky := heap_alloc_new w3 (.cells #[.bool true, .int .i64 (-1), .string ⟨k.toArray⟩, .int .i64 0, .int .i64 0] 48)
 have hs3 : w.heap.size <= w3.heap.size := HX.out.1.size
 have jy := Lib.hid (show vP w X R Rw.zero ⟨na, nb, nc, nd⟩ (.slice (some ⟨w3.heap.size, 0, none⟩) 1 1) [⟨true, -1, k, 0, 0⟩] (w3.alloc (.cells #[.bool true, .int .i64 (-1), .string ⟨k.toArray⟩, .int .i64 0, .int .i64 0] 48)) from by
  have g4 := (Only.of_below hby (fun _ => False)).heap HX.out.2.1 (fun h => h)
  have g5 := (Only.of_below hby (fun _ => False)).heap HX.out.2.2 (fun h => h)
  have l4 := aJ HX.out.2.1
  have l5 := aJ HX.out.2.2
  exact ⟨iD (x := ⟨true, -1, k, 0, 0⟩) ky hs3, fun g hg => by have hg2 : some w3.heap.size = some g := hg; injection hg2 with hg2; exact ⟨by omega, by omega⟩, HX.out.1.trans (hby.mono hs3), g4, g5⟩)
 clear hby ky
 have hbz := ag (w3.alloc (.cells #[.bool true, .int .i64 (-1), .string ⟨k.toArray⟩, .int .i64 0, .int .i64 0] 48)) (.cells #[.bool true, .int .i64 (-1), .string ⟨#[35]⟩, .int .i64 0, .int .i64 0] 48)
 have kz := heap_alloc_new (w3.alloc (.cells #[.bool true, .int .i64 (-1), .string ⟨k.toArray⟩, .int .i64 0, .int .i64 0] 48)) (.cells #[.bool true, .int .i64 (-1), .string ⟨#[35]⟩, .int .i64 0, .int .i64 0] 48)
 rw [show (w3.alloc (.cells #[.bool true, .int .i64 (-1), .string ⟨k.toArray⟩, .int .i64 0, .int .i64 0] 48)).heap.size = w3.heap.size + 1 by simp] at kz
 have HZ := Lib.hid (And.intro hbz (And.intro (gY (x := ⟨true, -1, [35], 0, 0⟩) kz) (aC jy.out.1 hbz)))
 clear hbz kz
 go_upto_region 10 with (at_builtin; go_loud (refine aH _ rfl _ _ 37 rfl w.heap.size 48 i0 _ 5 48 Tryz.underlying37 HI.out hz0 hz1 hz2 rfl (by decide) _ 1 (sH [⟨true, -1, k, 0, 0⟩]) rfl HZ.out.2.2 (fun _ => True) (.slice (some ⟨w3.heap.size + 1, 0, none⟩) 1 1) ([⟨true, -1, [35], 0, 0⟩].map Cl.cells) rfl HZ.out.2.1 (bI _) (eQ _) (by decide) (by decide) (by have := jy.out.2.2.1.size; have := HZ.out.1.size; omega) ?_); intro v4 w4 yh rF FK)
 have H4 := Lib.hid (jy.out.more HZ.out.1 yh rF FK (Nat.le_refl _))
 clear yh rF FK
 have HS := Lib.hid (show vP w X R Rw.zero ⟨na, nb, nc, nd⟩ _ (aL k none (some ⟨na, nb, nc, nd⟩) 0) w4 from H4.out)
 clear H4
 go_wp2_with fail
 go_loopw [14, 44] (fun v i wr => ∃ c : Nat, c <= 4 /\ i = .int .i64 (c : Int) /\ vP w X R Rw.zero ⟨na, nb, nc, nd⟩ v (aL k none (some ⟨na, nb, nc, nd⟩) c) wr) (fun _ i _ => 4 - (intOf i).toNat)
 case atStart => exact ⟨0, by decide, rfl, HS.out⟩
 case round =>
  obtain ⟨c, hc, rfl, gS⟩ := hrel
  have hlen := dI k none (some ⟨na, nb, nc, nd⟩) c
  have HW := Lib.hid (And.intro gS hlen)
  by_cases hlt : c < 4
  ·have i1 : (0 : Int) <= (c : Int) := by omega
   have i2 : (c : Int) < 4 := by omega
   have z0 := aF (r := Rw.zero) gS.2.2.2.1 hlt
   have y0 := aF (r := ⟨na, nb, nc, nd⟩) gS.2.2.2.2 hlt
   obtain ⟨x, hx⟩ : ∃ x, Rw.aG Rw.zero c = x := ⟨_, rfl⟩
   obtain ⟨y, hy⟩ : ∃ y, Rw.aG ⟨na, nb, nc, nd⟩ c = y := ⟨_, rfl⟩
   rw [hx] at z0
   rw [hy] at y0
   have HV := Lib.hid (And.intro hx hy)
   clear gS hlen
   clear hx hy
   go_wp2_with fail
   go_quiet (fail)
   rename_i nq
   clear z0 y0
   have HA := Lib.hid (HW.out.1.still (show Below wr.heap.size wr (wr.drewN nq) from Only.au ((Only.refl (fun _ => False) wr).drewN nq) (Nat.le_refl _) (fun _ _ h => h)))
   generalize wr.drewN nq = wa at HA ⊢
   go_upto_region 17 with fail
   have HD := Lib.hid (HA.out.still (show Below wa.heap.size wa wa.drew from (Below.refl _ _).drew))
   refine wp_region_held_drew (S := (fun W => W.heap[X]? = some (.cells #[.int .i64 0, .int .i64 0, .int .i64 0, .int .i64 0] 26 (0, 0)) /\ W.heap[R]? = some (.cells #[.int .i64 na, .int .i64 nb, .int .i64 nc, .int .i64 nd] 26 (0, 0)))) (by kernel_rfl) ⟨HA.out.2.2.2.1, HA.out.2.2.2.2⟩ (fun hHeld => ?_)
   generalize wa.drew = wd at HD hHeld ⊢
   refine aO [0, 1, 2, 3] ?_
   iterate 4 (refine cI (v := ?_) (fun wS hSw => ?_) hHeld ?_; rotate_left; (obtain ⟨s0, s1⟩ := hSw; go_simp; try with_reducible rfl); try simp only [av, ax, ay, az])
   refine aP ?_
   refine fL 4 (v := ?_) (fun wS hSw => ?_) hHeld ?_
   rotate_left
   ·obtain ⟨s0, s1⟩ := hSw; have q0 := aF (r := ⟨na, nb, nc, nd⟩) s1 hlt; rw [HV.out.2] at q0; go_simp; try with_reducible rfl
   try simp only [av, ax, ay, az]
   refine aO [5, 6] ?_
   iterate 2 (refine cI (v := ?_) (fun wS hSw => ?_) hHeld ?_; rotate_left; (obtain ⟨s0, s1⟩ := hSw; go_simp; try with_reducible rfl); try simp only [av, ax, ay, az])
   refine aP ?_
   refine fL 7 (v := ?_) (fun wS hSw => ?_) hHeld ?_
   rotate_left
   ·obtain ⟨s0, s1⟩ := hSw; have q0 := aF (r := ⟨na, nb, nc, nd⟩) s1 hlt; rw [HV.out.2] at q0; go_simp; try with_reducible rfl
   try simp only [av, ax, ay, az]
   refine fL 8 (v := ?_) (fun wS hSw => ?_) hHeld ?_
   rotate_left
   ·obtain ⟨s0, s1⟩ := hSw; go_simp; try with_reducible rfl
   try simp only [av, ax, ay, az]
   refine bg 9 (fun K hK => ?_)
   go_simp
   refine hK.out _ _ (⟨(Only.of_below (ag _ _) (fun _ => False)).heap hHeld.1 (fun h => h), (Only.of_below (ag _ _) (fun _ => False)).heap hHeld.2 (fun h => h)⟩) (fun ae => ?_)
   clear hK K hHeld 
   have hHeld := ae
   clear ae
   try simp only [av, ax, ay, az]
   have dU := ag wd (.cells #[.bool true, .int .i64 (c : Int), .string ⟨#[]⟩, .int .i64 y, .int .i64 y] 48)
   have HN := Lib.hid (And.intro dU (And.intro (gY (x := ⟨true, (c : Int), [], y, y⟩) (heap_alloc_new wd (.cells #[.bool true, .int .i64 (c : Int), .string ⟨#[]⟩, .int .i64 y, .int .i64 y] 48))) (aC HD.out.1 dU)))
   clear dU
   refine bg 10 (fun K hK => ?_)
   refine gQ rfl _ _ 37 rfl w.heap.size 48 i0 _ 5 48 Tryz.underlying37 HI.out hz0 hz1 hz2 rfl (by decide) _ _ _ rfl HN.out.2.2 (fun _ => True) (.slice (some ⟨wd.heap.size, 0, none⟩) 1 1) ([⟨true, (c : Int), [], y, y⟩].map Cl.cells) rfl HN.out.2.1 (bI _) (eQ _) (by have := HW.out.2; simp; omega) (by have := HW.out.2; simp [maxLen]; omega) (by have := HD.out.2.2.1.size; have := HN.out.1.size; omega) ?_
   intro v7 w7 dB iY rG
   have yi := Lib.hid (HD.out.more (x := ⟨true, (c : Int), [], y, y⟩) HN.out.1 dB iY rG (Nat.le_refl _))
   clear dB iY rG HN HD
   refine hK.out _ _ (⟨yi.out.2.2.2.1, yi.out.2.2.2.2⟩) (fun ae => ?_)
   clear hK K hHeld 
   have hHeld := ae
   clear ae
   try simp only [av, ax, ay, az]
   refine fL 11 (v := ?_) (fun wS hSw => ?_) hHeld ?_
   rotate_left
   ·obtain ⟨s0, s1⟩ := hSw; go_simp; try with_reducible rfl
   try simp only [av, ax, ay, az]
   refine wpAnyH_done (by kernel_rfl) ?_ _
   clear hHeld
   go_wp2_with fail
   go_roundw
   case rel =>
    refine ⟨c + 1, by omega, by go_num, ?_⟩
    have e : aL k none (some ⟨na, nb, nc, nd⟩) (c + 1) = aL k none (some ⟨na, nb, nc, nd⟩) c ++ [⟨true, (c : Int), [], y, y⟩] := by
     rw [aL]
     congr 1
     unfold mM
     simp only [HV.out.2]
    rw [e]
    have h := yi.out
    skip
    exact h
   case measure => simp [intOf]; omega
  ·obtain rfl : c = 4 := by omega
   clear gS hlen
   go_wp2_with fail
   go_ret2
   have e := eB k none (some ⟨na, nb, nc, nd⟩)
   have h := HW.out.1
   rw [e] at h
   exact ⟨_, rfl, h.1, h.2.2.1⟩
set_option maxHeartbeats 4000000 in
theorem vo (w : World) (B T o : Nat) (most : Int) (l : aW) (wl : Ir) (FT : Nat -> Nat -> Prop) (FB : Nat -> Prop) (k : List UInt8) (hk : 1 <= k.length /\ k.length <= 16) (h : gP w B T most o l wl FT FB) (old : Rw) (now : Rw) (hq : eK k wl l = (some old)) :
  Calls Tryz.prog 10 #[.int .i64 9, .pointer (some ⟨B, 0, none⟩), .string ⟨k.toArray⟩, now.val] w (Iw (dZ k (some old) (some now)) w) := by
 obtain ⟨i0, hi, hz0, hz1, hz2⟩ := info_parts Tryz.fZ
 have HI := Lib.hid hi
 obtain ⟨na, nb, nc, nd⟩ := now
 unfold Rw.val
 have hb0 := ag w (.cells #[.int .i64 na, .int .i64 nb, .int .i64 nc, .int .i64 nd] 26)
 have k0 := heap_alloc_new w (.cells #[.int .i64 na, .int .i64 nb, .int .i64 nc, .int .i64 nd] 26)
 have HG := Lib.hid (fun w' (h' : gP w' B T most o l wl FT FB) => ma w' B T o most l wl FT FB k hk h')
 have h1 := h.below hb0
 rw [hq] at HG
 clear h hk hq hi
 go_enter Tryz.func10, Tryz.ntmps10
 go_upto_region 1 with fail
 generalize w.alloc (.cells #[.int .i64 na, .int .i64 nb, .int .i64 nc, .int .i64 nd] 26) = w1 at hb0 k0 h1 ⊢
 obtain ⟨R, hR⟩ : ∃ x, w.heap.size = x := ⟨_, rfl⟩
 rw [hR] at k0 ⊢
 have HC := Lib.hid (HG.out w1 h1)
 have H1 := Lib.hid (And.intro hb0 (And.intro k0 hR))
 clear hb0 k0 h1 hR HG
 go_wp2_with fail
 refine HC.out.mono ?_
 rintro e w2 ⟨rfl, hb2⟩
 obtain ⟨oa, ob, oc, od⟩ := old
 simp only [Option.getD_some, Option.isSome_some, if_true]
 unfold Rw.val
 have eU := ag w2 (.cells #[.int .i64 oa, .int .i64 ob, .int .i64 oc, .int .i64 od] 26)
 have kx := heap_alloc_new w2 (.cells #[.int .i64 oa, .int .i64 ob, .int .i64 oc, .int .i64 od] 26)
 have hb3 := (hb2.trans (eU.mono hb2.size))
 have kr := (Only.of_below hb3 (fun _ => False)).heap H1.out.2.1 (fun h => h)
 have HX := Lib.hid (And.intro (H1.out.1.trans (hb3.mono H1.out.1.size)) (And.intro kx kr))
 clear hb2 eU kx hb3 kr HC
 go_upto_region 6 with fail
 have rE := HX.out
 clear HX
 generalize w2.alloc (.cells #[.int .i64 oa, .int .i64 ob, .int .i64 oc, .int .i64 od] 26) = w3 at rE ⊢
 obtain ⟨X, hX⟩ : ∃ x, w2.heap.size = x := ⟨_, rfl⟩
 rw [hX] at rE ⊢
 have HX := Lib.hid (show Below w.heap.size w w3 /\ w3.heap[X]? = some (.cells #[.int .i64 oa, .int .i64 ob, .int .i64 oc, .int .i64 od] 26 (0, 0)) /\ w3.heap[R]? = some (.cells #[.int .i64 na, .int .i64 nb, .int .i64 nc, .int .i64 nd] 26 (0, 0)) from rE)
 clear rE hX
 have hby := ag w3 (.cells #[.bool true, .int .i64 (-1), .string ⟨k.toArray⟩, .int .i64 0, .int .i64 0] 48)
 have ky := heap_alloc_new w3 (.cells #[.bool true, .int .i64 (-1), .string ⟨k.toArray⟩, .int .i64 0, .int .i64 0] 48)
 have hs3 : w.heap.size <= w3.heap.size := HX.out.1.size
 have jy := Lib.hid (show vP w X R ⟨oa, ob, oc, od⟩ ⟨na, nb, nc, nd⟩ (.slice (some ⟨w3.heap.size, 0, none⟩) 1 1) [⟨true, -1, k, 0, 0⟩] (w3.alloc (.cells #[.bool true, .int .i64 (-1), .string ⟨k.toArray⟩, .int .i64 0, .int .i64 0] 48)) from by
  have g4 := (Only.of_below hby (fun _ => False)).heap HX.out.2.1 (fun h => h)
  have g5 := (Only.of_below hby (fun _ => False)).heap HX.out.2.2 (fun h => h)
  have l4 := aJ HX.out.2.1
  have l5 := aJ HX.out.2.2
  exact ⟨iD (x := ⟨true, -1, k, 0, 0⟩) ky hs3, fun g hg => by have hg2 : some w3.heap.size = some g := hg; injection hg2 with hg2; exact ⟨by omega, by omega⟩, HX.out.1.trans (hby.mono hs3), g4, g5⟩)
 clear hby ky
 go_upto_region 10 with fail
 obtain ⟨w4, hw4⟩ : ∃ x, w3.alloc (.cells #[.bool true, .int .i64 (-1), .string ⟨k.toArray⟩, .int .i64 0, .int .i64 0] 48) = x := ⟨_, rfl⟩
 rw [hw4] at jy ⊢
 obtain ⟨A4, Ob⟩ : ∃ x, some (⟨w3.heap.size, 0, none⟩ : Addr) = x := ⟨_, rfl⟩
 rw [Ob] at jy ⊢
 have H4 := Lib.hid jy.out
 clear jy hw4 Ob
 have HS := Lib.hid (show vP w X R ⟨oa, ob, oc, od⟩ ⟨na, nb, nc, nd⟩ _ (aL k (some ⟨oa, ob, oc, od⟩) (some ⟨na, nb, nc, nd⟩) 0) w4 from H4.out)
 clear H4
 go_wp2_with fail
 go_loopw [14, 44] (fun v i wr => ∃ c : Nat, c <= 4 /\ i = .int .i64 (c : Int) /\ vP w X R ⟨oa, ob, oc, od⟩ ⟨na, nb, nc, nd⟩ v (aL k (some ⟨oa, ob, oc, od⟩) (some ⟨na, nb, nc, nd⟩) c) wr) (fun _ i _ => 4 - (intOf i).toNat)
 case atStart => exact ⟨0, by decide, rfl, HS.out⟩
 case round =>
  obtain ⟨c, hc, rfl, gS⟩ := hrel
  have hlen := dI k (some ⟨oa, ob, oc, od⟩) (some ⟨na, nb, nc, nd⟩) c
  have HW := Lib.hid (And.intro gS hlen)
  by_cases hlt : c < 4
  ·have i1 : (0 : Int) <= (c : Int) := by omega
   have i2 : (c : Int) < 4 := by omega
   have z0 := aF (r := ⟨oa, ob, oc, od⟩) gS.2.2.2.1 hlt
   have y0 := aF (r := ⟨na, nb, nc, nd⟩) gS.2.2.2.2 hlt
   obtain ⟨x, hx⟩ : ∃ x, Rw.aG ⟨oa, ob, oc, od⟩ c = x := ⟨_, rfl⟩
   obtain ⟨y, hy⟩ : ∃ y, Rw.aG ⟨na, nb, nc, nd⟩ c = y := ⟨_, rfl⟩
   rw [hx] at z0
   rw [hy] at y0
   have HV := Lib.hid (And.intro hx hy)
   clear gS hlen
   by_cases hxy : x = y
   ·subst hxy
    have HE := Lib.hid (show Rw.aG ⟨oa, ob, oc, od⟩ c = Rw.aG ⟨na, nb, nc, nd⟩ c from hx.trans hy.symm)
    go_wp2_with fail
    go_quiet (fail)
    rename_i nq
    go_wp2_with fail
    go_roundw
    case rel =>
     refine ⟨c + 1, by omega, by go_num, ?_⟩
     have e : aL k (some ⟨oa, ob, oc, od⟩) (some ⟨na, nb, nc, nd⟩) (c + 1) = aL k (some ⟨oa, ob, oc, od⟩) (some ⟨na, nb, nc, nd⟩) c := by
      rw [aL]
      unfold mM
      simp only [HE.out, if_true, List.append_nil]
     rw [e]
     exact HW.out.1.still (Only.au ((Only.refl (fun _ => False) wr).drewN nq) (Nat.le_refl _) (fun _ _ h => h))
    case measure => simp [intOf]; omega
   ·have FE : (x == y) = false := by simpa using hxy
    have rE := Lib.hid hxy
    clear hx hy
    go_wp2_with fail
    go_quiet (fail)
    rename_i nq
    clear hxy FE
    clear z0 y0
    have HA := Lib.hid (HW.out.1.still (show Below wr.heap.size wr (wr.drewN nq) from Only.au ((Only.refl (fun _ => False) wr).drewN nq) (Nat.le_refl _) (fun _ _ h => h)))
    generalize wr.drewN nq = wa at HA ⊢
    go_upto_region 15 with fail
    have HD := Lib.hid (HA.out.still (show Below wa.heap.size wa wa.drew from (Below.refl _ _).drew))
    refine wp_region_held_drew (S := (fun W => W.heap[X]? = some (.cells #[.int .i64 oa, .int .i64 ob, .int .i64 oc, .int .i64 od] 26 (0, 0)) /\ W.heap[R]? = some (.cells #[.int .i64 na, .int .i64 nb, .int .i64 nc, .int .i64 nd] 26 (0, 0)))) (by kernel_rfl) ⟨HA.out.2.2.2.1, HA.out.2.2.2.2⟩ (fun hHeld => ?_)
    generalize wa.drew = wd at HD hHeld ⊢
    refine aO [0, 1, 2, 3] ?_
    iterate 4 (refine cI (v := ?_) (fun wS hSw => ?_) hHeld ?_; rotate_left; (obtain ⟨s0, s1⟩ := hSw; go_simp; try with_reducible rfl); try simp only [av, ax, ay, az])
    refine aP ?_
    refine fL 4 (v := ?_) (fun wS hSw => ?_) hHeld ?_
    rotate_left
    ·obtain ⟨s0, s1⟩ := hSw; have q0 := aF (r := ⟨oa, ob, oc, od⟩) s0 hlt; rw [HV.out.1] at q0; go_simp; try with_reducible rfl
    try simp only [av, ax, ay, az]
    refine aO [5, 6] ?_
    iterate 2 (refine cI (v := ?_) (fun wS hSw => ?_) hHeld ?_; rotate_left; (obtain ⟨s0, s1⟩ := hSw; go_simp; try with_reducible rfl); try simp only [av, ax, ay, az])
    refine aP ?_
    refine fL 7 (v := ?_) (fun wS hSw => ?_) hHeld ?_
    rotate_left
    ·obtain ⟨s0, s1⟩ := hSw; have q0 := aF (r := ⟨oa, ob, oc, od⟩) s0 hlt; rw [HV.out.1] at q0; go_simp; try with_reducible rfl
    try simp only [av, ax, ay, az]
    refine fL 8 (v := ?_) (fun wS hSw => ?_) hHeld ?_
    rotate_left
    ·obtain ⟨s0, s1⟩ := hSw; go_simp; try with_reducible rfl
    try simp only [av, ax, ay, az]
    refine bg 9 (fun K hK => ?_)
    go_simp
    refine hK.out _ _ (⟨(Only.of_below (ag _ _) (fun _ => False)).heap hHeld.1 (fun h => h), (Only.of_below (ag _ _) (fun _ => False)).heap hHeld.2 (fun h => h)⟩) (fun ae => ?_)
    clear hK K hHeld 
    have hHeld := ae
    clear ae
    try simp only [av, ax, ay, az]
    have dU := ag wd (.cells #[.bool true, .int .i64 (c : Int), .string ⟨#[]⟩, .int .i64 x, .int .i64 x] 48)
    have HN := Lib.hid (And.intro dU (And.intro (gY (x := ⟨true, (c : Int), [], x, x⟩) (heap_alloc_new wd (.cells #[.bool true, .int .i64 (c : Int), .string ⟨#[]⟩, .int .i64 x, .int .i64 x] 48))) (aC HD.out.1 dU)))
    clear dU
    refine bg 10 (fun K hK => ?_)
    refine gQ rfl _ _ 37 rfl w.heap.size 48 i0 _ 5 48 Tryz.underlying37 HI.out hz0 hz1 hz2 rfl (by decide) _ _ _ rfl HN.out.2.2 (fun _ => True) (.slice (some ⟨wd.heap.size, 0, none⟩) 1 1) ([⟨true, (c : Int), [], x, x⟩].map Cl.cells) rfl HN.out.2.1 (bI _) (eQ _) (by have := HW.out.2; simp; omega) (by have := HW.out.2; simp [maxLen]; omega) (by have := HD.out.2.2.1.size; have := HN.out.1.size; omega) ?_
    intro v6 w6 fA iX lD
    have pE := Lib.hid (HD.out.more (x := ⟨true, (c : Int), [], x, x⟩) HN.out.1 fA iX lD (Nat.le_refl _))
    clear fA iX lD HN HD
    refine hK.out _ _ (⟨pE.out.2.2.2.1, pE.out.2.2.2.2⟩) (fun ae => ?_)
    clear hK K hHeld 
    have hHeld := ae
    clear ae
    try simp only [av, ax, ay, az]
    refine fL 11 (v := ?_) (fun wS hSw => ?_) hHeld ?_
    rotate_left
    ·obtain ⟨s0, s1⟩ := hSw; go_simp; try with_reducible rfl
    try simp only [av, ax, ay, az]
    refine wpAnyH_done (by kernel_rfl) ?_ _
    clear hHeld
    go_upto_region 17 with fail
    have HD := Lib.hid (pE.out.still (show Below w6.heap.size w6 w6.drew from (Below.refl _ _).drew))
    refine wp_region_held_drew (S := (fun W => W.heap[X]? = some (.cells #[.int .i64 oa, .int .i64 ob, .int .i64 oc, .int .i64 od] 26 (0, 0)) /\ W.heap[R]? = some (.cells #[.int .i64 na, .int .i64 nb, .int .i64 nc, .int .i64 nd] 26 (0, 0)))) (by kernel_rfl) ⟨pE.out.2.2.2.1, pE.out.2.2.2.2⟩ (fun hHeld => ?_)
    generalize w6.drew = wd at HD hHeld ⊢
    refine aO [0, 1, 2, 3] ?_
    iterate 4 (refine cI (v := ?_) (fun wS hSw => ?_) hHeld ?_; rotate_left; (obtain ⟨s0, s1⟩ := hSw; go_simp; try with_reducible rfl); try simp only [av, ax, ay, az])
    refine aP ?_
    refine fL 4 (v := ?_) (fun wS hSw => ?_) hHeld ?_
    rotate_left
    ·obtain ⟨s0, s1⟩ := hSw; have q0 := aF (r := ⟨na, nb, nc, nd⟩) s1 hlt; rw [HV.out.2] at q0; go_simp; try with_reducible rfl
    try simp only [av, ax, ay, az]
    refine aO [5, 6] ?_
    iterate 2 (refine cI (v := ?_) (fun wS hSw => ?_) hHeld ?_; rotate_left; (obtain ⟨s0, s1⟩ := hSw; go_simp; try with_reducible rfl); try simp only [av, ax, ay, az])
    refine aP ?_
    refine fL 7 (v := ?_) (fun wS hSw => ?_) hHeld ?_
    rotate_left
    ·obtain ⟨s0, s1⟩ := hSw; have q0 := aF (r := ⟨na, nb, nc, nd⟩) s1 hlt; rw [HV.out.2] at q0; go_simp; try with_reducible rfl
    try simp only [av, ax, ay, az]
    refine fL 8 (v := ?_) (fun wS hSw => ?_) hHeld ?_
    rotate_left
    ·obtain ⟨s0, s1⟩ := hSw; go_simp; try with_reducible rfl
    try simp only [av, ax, ay, az]
    refine bg 9 (fun K hK => ?_)
    go_simp
    refine hK.out _ _ (⟨(Only.of_below (ag _ _) (fun _ => False)).heap hHeld.1 (fun h => h), (Only.of_below (ag _ _) (fun _ => False)).heap hHeld.2 (fun h => h)⟩) (fun ae => ?_)
    clear hK K hHeld 
    have hHeld := ae
    clear ae
    try simp only [av, ax, ay, az]
    have dU := ag wd (.cells #[.bool true, .int .i64 (c : Int), .string ⟨#[]⟩, .int .i64 y, .int .i64 y] 48)
    have HN := Lib.hid (And.intro dU (And.intro (gY (x := ⟨true, (c : Int), [], y, y⟩) (heap_alloc_new wd (.cells #[.bool true, .int .i64 (c : Int), .string ⟨#[]⟩, .int .i64 y, .int .i64 y] 48))) (aC HD.out.1 dU)))
    clear dU
    refine bg 10 (fun K hK => ?_)
    refine gQ rfl _ _ 37 rfl w.heap.size 48 i0 _ 5 48 Tryz.underlying37 HI.out hz0 hz1 hz2 rfl (by decide) _ _ _ rfl HN.out.2.2 (fun _ => True) (.slice (some ⟨wd.heap.size, 0, none⟩) 1 1) ([⟨true, (c : Int), [], y, y⟩].map Cl.cells) rfl HN.out.2.1 (bI _) (eQ _) (by have := HW.out.2; simp; omega) (by have := HW.out.2; simp [maxLen]; omega) (by have := HD.out.2.2.1.size; have := HN.out.1.size; omega) ?_
    intro v7 w7 dB iY rG
    have yi := Lib.hid (HD.out.more (x := ⟨true, (c : Int), [], y, y⟩) HN.out.1 dB iY rG (Nat.le_refl _))
    clear dB iY rG HN HD
    refine hK.out _ _ (⟨yi.out.2.2.2.1, yi.out.2.2.2.2⟩) (fun ae => ?_)
    clear hK K hHeld 
    have hHeld := ae
    clear ae
    try simp only [av, ax, ay, az]
    refine fL 11 (v := ?_) (fun wS hSw => ?_) hHeld ?_
    rotate_left
    ·obtain ⟨s0, s1⟩ := hSw; go_simp; try with_reducible rfl
    try simp only [av, ax, ay, az]
    refine wpAnyH_done (by kernel_rfl) ?_ _
    clear hHeld
    go_wp2_with fail
    go_roundw
    case rel =>
     refine ⟨c + 1, by omega, by go_num, ?_⟩
     have e : aL k (some ⟨oa, ob, oc, od⟩) (some ⟨na, nb, nc, nd⟩) (c + 1) = aL k (some ⟨oa, ob, oc, od⟩) (some ⟨na, nb, nc, nd⟩) c ++ [⟨true, (c : Int), [], x, x⟩, ⟨true, (c : Int), [], y, y⟩] := by
      rw [aL]
      congr 1
      unfold mM
      simp only [HV.out.1, HV.out.2, if_neg rE.out]
     rw [e]
     have h := yi.out
     rw [List.append_assoc] at h
     exact h
    case measure => simp [intOf]; omega
  ·obtain rfl : c = 4 := by omega
   clear gS hlen
   go_wp2_with fail
   go_ret2
   have e := eB k (some ⟨oa, ob, oc, od⟩) (some ⟨na, nb, nc, nd⟩)
   have h := HW.out.1
   rw [e] at h
   exact ⟨_, rfl, h.1, h.2.2.1⟩
set_option maxHeartbeats 4000000 in
theorem vq (w : World) (B T o : Nat) (most : Int) (l : aW) (wl : Ir) (FT : Nat -> Nat -> Prop) (FB : Nat -> Prop) (k : List UInt8) (hk : 1 <= k.length /\ k.length <= 16) (h : gP w B T most o l wl FT FB) (now : Rw) (hq : eK k wl l = none) :
  Calls Tryz.prog 10 #[.int .i64 10, .pointer (some ⟨B, 0, none⟩), .string ⟨k.toArray⟩, now.val] w (Iw (dZ k none none) w) := by
 obtain ⟨i0, hi, hz0, hz1, hz2⟩ := info_parts Tryz.fZ
 have HI := Lib.hid hi
 obtain ⟨na, nb, nc, nd⟩ := now
 unfold Rw.val
 have hb0 := ag w (.cells #[.int .i64 na, .int .i64 nb, .int .i64 nc, .int .i64 nd] 26)
 have k0 := heap_alloc_new w (.cells #[.int .i64 na, .int .i64 nb, .int .i64 nc, .int .i64 nd] 26)
 have HG := Lib.hid (fun w' (h' : gP w' B T most o l wl FT FB) => ma w' B T o most l wl FT FB k hk h')
 have h1 := h.below hb0
 rw [hq] at HG
 clear h hk hq hi
 go_enter Tryz.func10, Tryz.ntmps10
 go_upto_region 1 with fail
 generalize w.alloc (.cells #[.int .i64 na, .int .i64 nb, .int .i64 nc, .int .i64 nd] 26) = w1 at hb0 k0 h1 ⊢
 obtain ⟨R, hR⟩ : ∃ x, w.heap.size = x := ⟨_, rfl⟩
 rw [hR] at k0 ⊢
 have HC := Lib.hid (HG.out w1 h1)
 have H1 := Lib.hid (And.intro hb0 (And.intro k0 hR))
 clear hb0 k0 h1 hR HG
 go_wp2_with fail
 refine HC.out.mono ?_
 rintro e w2 ⟨rfl, hb2⟩
 simp only [Option.getD_none, Option.isSome_none, Bool.false_eq_true, if_false, Rw.zero]
 unfold Rw.val
 have eU := ag w2 (.cells #[.int .i64 0, .int .i64 0, .int .i64 0, .int .i64 0] 26)
 have kx := heap_alloc_new w2 (.cells #[.int .i64 0, .int .i64 0, .int .i64 0, .int .i64 0] 26)
 have hb3 := (hb2.trans (eU.mono hb2.size))
 have kr := (Only.of_below hb3 (fun _ => False)).heap H1.out.2.1 (fun h => h)
 have HX := Lib.hid (And.intro (H1.out.1.trans (hb3.mono H1.out.1.size)) (And.intro kx kr))
 clear hb2 eU kx hb3 kr HC
 go_upto_region 6 with fail
 have rE := HX.out
 clear HX
 generalize w2.alloc (.cells #[.int .i64 0, .int .i64 0, .int .i64 0, .int .i64 0] 26) = w3 at rE ⊢
 obtain ⟨X, hX⟩ : ∃ x, w2.heap.size = x := ⟨_, rfl⟩
 rw [hX] at rE ⊢
 have HX := Lib.hid (show Below w.heap.size w w3 /\ w3.heap[X]? = some (.cells #[.int .i64 0, .int .i64 0, .int .i64 0, .int .i64 0] 26 (0, 0)) /\ w3.heap[R]? = some (.cells #[.int .i64 na, .int .i64 nb, .int .i64 nc, .int .i64 nd] 26 (0, 0)) from rE)
 clear rE hX
 have hby := ag w3 (.cells #[.bool true, .int .i64 (-1), .string ⟨k.toArray⟩, .int .i64 0, .int .i64 0] 48)
 have ky := heap_alloc_new w3 (.cells #[.bool true, .int .i64 (-1), .string ⟨k.toArray⟩, .int .i64 0, .int .i64 0] 48)
 have hs3 : w.heap.size <= w3.heap.size := HX.out.1.size
 have jy := Lib.hid (show vP w X R Rw.zero ⟨na, nb, nc, nd⟩ (.slice (some ⟨w3.heap.size, 0, none⟩) 1 1) [⟨true, -1, k, 0, 0⟩] (w3.alloc (.cells #[.bool true, .int .i64 (-1), .string ⟨k.toArray⟩, .int .i64 0, .int .i64 0] 48)) from by
  have g4 := (Only.of_below hby (fun _ => False)).heap HX.out.2.1 (fun h => h)
  have g5 := (Only.of_below hby (fun _ => False)).heap HX.out.2.2 (fun h => h)
  have l4 := aJ HX.out.2.1
  have l5 := aJ HX.out.2.2
  exact ⟨iD (x := ⟨true, -1, k, 0, 0⟩) ky hs3, fun g hg => by have hg2 : some w3.heap.size = some g := hg; injection hg2 with hg2; exact ⟨by omega, by omega⟩, HX.out.1.trans (hby.mono hs3), g4, g5⟩)
 clear hby ky
 go_upto_region 10 with fail
 obtain ⟨w4, hw4⟩ : ∃ x, w3.alloc (.cells #[.bool true, .int .i64 (-1), .string ⟨k.toArray⟩, .int .i64 0, .int .i64 0] 48) = x := ⟨_, rfl⟩
 rw [hw4] at jy ⊢
 obtain ⟨A4, Ob⟩ : ∃ x, some (⟨w3.heap.size, 0, none⟩ : Addr) = x := ⟨_, rfl⟩
 rw [Ob] at jy ⊢
 have H4 := Lib.hid jy.out
 clear jy hw4 Ob
 have HS := Lib.hid (show vP w X R Rw.zero ⟨na, nb, nc, nd⟩ _ (aL k none none 0) w4 from H4.out)
 clear H4
 go_wp2_with fail
 go_loopw [14, 44] (fun v i wr => ∃ c : Nat, c <= 4 /\ i = .int .i64 (c : Int) /\ vP w X R Rw.zero ⟨na, nb, nc, nd⟩ v (aL k none none c) wr) (fun _ i _ => 4 - (intOf i).toNat)
 case atStart => exact ⟨0, by decide, rfl, HS.out⟩
 case round =>
  obtain ⟨c, hc, rfl, gS⟩ := hrel
  have hlen := dI k none none c
  have HW := Lib.hid (And.intro gS hlen)
  by_cases hlt : c < 4
  ·have i1 : (0 : Int) <= (c : Int) := by omega
   have i2 : (c : Int) < 4 := by omega
   have z0 := aF (r := Rw.zero) gS.2.2.2.1 hlt
   have y0 := aF (r := ⟨na, nb, nc, nd⟩) gS.2.2.2.2 hlt
   obtain ⟨x, hx⟩ : ∃ x, Rw.aG Rw.zero c = x := ⟨_, rfl⟩
   obtain ⟨y, hy⟩ : ∃ y, Rw.aG ⟨na, nb, nc, nd⟩ c = y := ⟨_, rfl⟩
   rw [hx] at z0
   rw [hy] at y0
   have HV := Lib.hid (And.intro hx hy)
   clear gS hlen
   clear hx hy
   go_wp2_with fail
   go_quiet (fail)
   rename_i nq
   clear z0 y0
   have HA := Lib.hid (HW.out.1.still (show Below wr.heap.size wr (wr.drewN nq) from Only.au ((Only.refl (fun _ => False) wr).drewN nq) (Nat.le_refl _) (fun _ _ h => h)))
   generalize wr.drewN nq = wa at HA ⊢
   go_wp2_with fail
   go_roundw
   case rel =>
    refine ⟨c + 1, by omega, by go_num, ?_⟩
    have e : aL k none none (c + 1) = aL k none none c ++ [] := by
     rw [aL]
     skip
     rfl
     done
    rw [e]
    have h := HA.out
    rw [List.append_nil]
    exact h
   case measure => simp [intOf]; omega
  ·obtain rfl : c = 4 := by omega
   clear gS hlen
   go_wp2_with fail
   go_ret2
   have e := eB k none none
   have h := HW.out.1
   rw [e] at h
   exact ⟨_, rfl, h.1, h.2.2.1⟩
theorem eZ (w : World) (op : Int) (k : List UInt8) (now : Rw) : Calls Tryz.prog 10 #[.int .i64 op, .pointer none, .string ⟨k.toArray⟩, now.val] w fun e w' => e = .returned (.tuple #[.slice none 0 0, .int .i64 2]) /\ Below w.heap.size w w' := by
 obtain ⟨na, nb, nc, nd⟩ := now
 unfold Rw.val
 have hb0 := Lib.hid (ag w (.cells #[.int .i64 na, .int .i64 nb, .int .i64 nc, .int .i64 nd] 26))
 go_enter Tryz.func10, Tryz.ntmps10
 go_wp2_with fail
 go_ret2
 exact ⟨rfl, hb0.out⟩
theorem sI (w : World) (op : Int) (h9 : op ≠ 9) (h10 : op ≠ 10) (B : Nat) (k : List UInt8) (now : Rw) : Calls Tryz.prog 10 #[.int .i64 op, .pointer (some ⟨B, 0, none⟩), .string ⟨k.toArray⟩, now.val] w fun e w' => e = .returned (.tuple #[.slice none 0 0, .int .i64 11]) /\ Below w.heap.size w w' := by
 obtain ⟨na, nb, nc, nd⟩ := now
 unfold Rw.val
 have hb0 := Lib.hid (ag w (.cells #[.int .i64 na, .int .i64 nb, .int .i64 nc, .int .i64 nd] 26))
 have g9 : (op != 9) = true := by simpa using h9
 have g10 : (op != 10) = true := by simpa using h10
 clear h9 h10
 go_enter Tryz.func10, Tryz.ntmps10
 go_wp2_with fail
 go_ret2
 exact ⟨rfl, hb0.out⟩
def ig (x : List UInt8 × Rw) : Bool -> aW -> aW
 | d, [] => if d then [] else [x]
 | d, q :: l => (if d = false /\ ¬ q.1 < x.1 then [x] else []) ++ ((if q.1 ≠ x.1 then [q] else []) ++ ig x (d || !decide (q.1 < x.1)) l)
theorem mR (x : List UInt8 × Rw) : ∀ (l : aW), (∀ q ∈ l, x.1 < q.1) -> ig x true l = l
 | [], _ => rfl
 | q :: l, h => by
  have hq := h q (by simp)
  have hne : q.1 ≠ x.1 := fun e => aM q.1 (by rw [e] at hq ⊢; exact hq)
  simp only [ig, Bool.true_or]
  rw [if_neg (by simp), if_pos hne, mR x l (fun y hy => h y (by simp [hy]))]
  rfl
theorem lG {x : List UInt8 × Rw} : ∀ {l : aW}, lg l -> ig x false l = bU x l
 | [], _ => rfl
 | q :: l, hu => by
  have hu' := List.pairwise_cons.1 hu
  simp only [ig, bU, Bool.false_or]
  by_cases h : q.1 < x.1
  ·have hne : q.1 ≠ x.1 := fun e => aM x.1 (by rw [e] at h; exact h)
   rw [if_pos h, if_neg (by simp [h]), if_pos hne, decide_eq_true h, Bool.not_true, lG hu'.2]
   rfl
  ·rw [if_neg h, if_pos (by simp [h]), decide_eq_false h, Bool.not_false]
   by_cases e : q.1 = x.1
   ·rw [if_pos e, if_neg (fun h => absurd e h), mR x l (fun y hy => by rw [<- e]; exact hu'.1 y hy)]
    simp
   ·have hlt : x.1 < q.1 := (og h).elim id (fun e' => absurd e'.symm e)
    rw [if_neg e, if_pos e, mR x l (fun y hy => fw hlt (hu'.1 y hy))]
    rfl
theorem aa {w1 W : World} {p : Addr} {v : Value} (hb : Below w1.heap.size w1 W) (h : w1.cell? p = some v) : W.cell? p = some v := (hb.cell (World.block_lt_of_cell? _ _ h)).trans h
def rH (q : List UInt8 × Rw) : List Value := [.string ⟨q.1.toArray⟩, .int .i64 q.2.a, .int .i64 q.2.b, .int .i64 q.2.c, .int .i64 q.2.d]
def Oc (l : aW) : List Value := (l.map rH).flatten
theorem mb (l m : aW) : Oc (l ++ m) = Oc l ++ Oc m := by simp [Oc]
theorem gZ (l : aW) : ∀ y ∈ l.map rH, y.length = 5 := by
 intro y hy
 obtain ⟨x, _, rfl⟩ := List.mem_map.1 hy
 rfl
theorem oN (l : aW) : ∀ u ∈ (l.map rH).flatten, u.oneCell' = true := by
 intro u hu
 obtain ⟨y, hy, hu⟩ := List.mem_flatten.1 hu
 obtain ⟨x, _, rfl⟩ := List.mem_map.1 hy
 simp only [rH, List.mem_cons, List.not_mem_nil, or_false] at hu
 rcases hu with rfl | rfl | rfl | rfl | rfl <;> rfl
theorem Tryz.KN : (Tryz.prog.info? 44).map (fun i => (i.zero, i.size, i.bytes)) = some (some (.agg #[.string ⟨#[]⟩, .int .i64 0, .int .i64 0, .int .i64 0, .int .i64 0]), 5, 48) := by kernel_rfl
def TG (q : List UInt8 × Rw) : Obj := .cells #[.string ⟨q.1.toArray⟩, .int .i64 q.2.a, .int .i64 q.2.b, .int .i64 q.2.c, .int .i64 q.2.d] 44 (0, 0)
theorem oO {w : World} {X : Nat} {q : List UInt8 × Rw} (h : w.heap[X]? = some (TG q)) : bE 5 w (fun _ => True) (.slice (some ⟨X, 0, none⟩) 1 1) ([q].map rH) := by
 refine ⟨_, 1, 1, rfl, rfl, Nat.le_refl _, by simp [maxLen], fun _ => ⟨X, 0, rfl, trivial, fun i y hi j u hj => ?_⟩⟩
 have h1 := jk (k := 5) (xs := [q].map rH) (gZ [q]) i y hi j u hj
 unfold TG at h
 rw [World.cell?, h]
 have h2 : (#[.string ⟨q.1.toArray⟩, .int .i64 q.2.a, .int .i64 q.2.b, .int .i64 q.2.c, .int .i64 q.2.d] : Array Value).toList = ([q].map rH).flatten := rfl
 rw [<- h2] at h1
 simpa using h1
theorem BS {w : World} {F : Nat -> Prop} {A : Option Addr} {n c : Nat} {l : aW} (h : bE 5 w F (.slice A n c) (l.map rH)) {j : Nat} {q : List UInt8 × Rw} (hj : l[j]? = some q) :
  ∃ b o, A = some ⟨b, o, none⟩ /\ F b /\ w.cell? ⟨b, o + j * 5, none⟩ = some (.string ⟨q.1.toArray⟩) /\ w.cell? ⟨b, o + j * 5 + 1, none⟩ = some (.int .i64 q.2.a) /\ w.cell? ⟨b, o + j * 5 + 2, none⟩ = some (.int .i64 q.2.b) /\
   w.cell? ⟨b, o + j * 5 + 3, none⟩ = some (.int .i64 q.2.c) /\ w.cell? ⟨b, o + j * 5 + 4, none⟩ = some (.int .i64 q.2.d) := by
 obtain ⟨A', n', c', hv, hl, _, _, hx⟩ := h
 injection hv with h1 h2 h3
 subst h1 h2 h3
 have hlt := (List.getElem?_eq_some_iff.1 hj).1
 obtain ⟨b, o, rfl, hF, hc⟩ := hx (by simp at hl; omega)
 have hx' : (l.map rH)[j]? = some (rH q) := by simp [hj]
 exact ⟨b, o, rfl, hF, hc j _ hx' 0 _ rfl, hc j _ hx' 1 _ rfl, hc j _ hx' 2 _ rfl, hc j _ hx' 3 _ rfl, hc j _ hx' 4 _ rfl⟩
theorem jL {w : World} {F : Nat -> Prop} {v : Value} {l : aW} (h : bE 5 w F v (l.map rH)) : ∃ A c, v = .slice A l.length c /\ l.length <= c /\ c <= maxLen := by
 obtain ⟨A', n', c', hv, hl, h1, h2, _⟩ := h
 simp at hl
 exact ⟨A', c', by rw [hl]; exact hv, by omega, h2⟩
def dV (base : Nat) (v : Value) (l : aW) (w : World) : Prop := w.ownsRow base 44 5 v l.length (Oc l)
def TH (l : aW) (w : World) (e : Ending) (w' : World) : Prop := ∃ v, e = .returned v /\ dV w.heap.size v l w' /\ Below w.heap.size w w'
set_option maxHeartbeats 4000000 in
theorem FL (w : World) (F : Nat -> Prop) (v : Value) (l : aW) (k : List UInt8) (r : Rw) (hv : bE 5 w F v (l.map rH)) (hl : l.length <= 1000) :
  Calls Tryz.prog 39 #[v, .agg #[.string ⟨k.toArray⟩, .int .i64 r.a, .int .i64 r.b, .int .i64 r.c, .int .i64 r.d]] w (TH (ig (k, r) false l) w) := by
 obtain ⟨i0, hi, hz0, hz1, hz2⟩ := info_parts Tryz.KN
 have HI := Lib.hid hi
 obtain ⟨A, c, rfl, hlc, hcm⟩ := jL hv
 unfold maxLen at hcm
 have hb0 := ag w (.cells #[.string ⟨k.toArray⟩, .int .i64 r.a, .int .i64 r.b, .int .i64 r.c, .int .i64 r.d] 44)
 have k0 := heap_alloc_new w (.cells #[.string ⟨k.toArray⟩, .int .i64 r.a, .int .i64 r.b, .int .i64 r.c, .int .i64 r.d] 44)
 obtain ⟨ra, rb, rc, rd⟩ := r
 simp only at hb0 k0 ⊢
 have hv1 := hv
 obtain ⟨N, hN⟩ : ∃ N, l.length = N := ⟨_, rfl⟩
 rw [hN] at hv1 hlc hl ⊢
 have HL := Lib.hid hN
 clear hi hv hN
 go_enter Tryz.func39, Tryz.ntmps39
 go_upto_region 1 with fail
 have hv2 := hv1.below hb0
 generalize w.alloc (.cells #[.string ⟨k.toArray⟩, .int .i64 ra, .int .i64 rb, .int .i64 rc, .int .i64 rd] 44) = w1 at hb0 k0 hv2 ⊢
 obtain ⟨X, hX⟩ : ∃ x, w.heap.size = x := ⟨_, rfl⟩
 rw [hX] at k0 ⊢
 have HX := Lib.hid (show w1.cell? ⟨X, 0, none⟩ = some (.string ⟨k.toArray⟩) /\ w1.cell? ⟨X, 1, none⟩ = some (.int .i64 ra) /\ w1.cell? ⟨X, 2, none⟩ = some (.int .i64 rb) /\ w1.cell? ⟨X, 3, none⟩ = some (.int .i64 rc) /\ w1.cell? ⟨X, 4, none⟩ = some (.int .i64 rd) by simp [World.cell?, k0])
 have H1 := Lib.hid (And.intro hb0 (And.intro k0 (And.intro hX hv2)))
 clear hb0 k0 hX hv1 hv2
 go_wp2_with fail
 go_loopw [5, 6, 7] (fun v d i wr => ∃ (j : Nat) (dn : Bool) (out : aW), j <= N /\ i = .int .i64 (j : Int) /\ d = .bool dn /\ dV w1.heap.size v out wr /\ out ++ ig (k, ⟨ra, rb, rc, rd⟩) dn (l.drop j) = ig (k, ⟨ra, rb, rc, rd⟩) false l /\ out.length <= 2 * j /\ Below w1.heap.size w1 wr) (fun _ _ i _ => N - (intOf i).toNat)
 case atStart => exact ⟨0, false, [], by omega, rfl, rfl, World.ownsRow_nil _ _ _ _, by simp, by simp, Below.refl _ _⟩
 case round =>
  obtain ⟨j, dn, out, hj, rfl, rfl, hown, heq, hol, hb⟩ := hrel
  by_cases hlt : j < N
  ·obtain ⟨q, hq⟩ : ∃ q, l[j]? = some q := ⟨_, List.getElem?_eq_getElem (by rw [HL.out]; exact hlt)⟩
   have hdr : l.drop j = q :: l.drop (j + 1) := by
    have h1 := List.getElem?_eq_some_iff.1 hq
    rw [<- h1.2]
    exact List.drop_eq_getElem_cons h1.1
   obtain ⟨b, o, rfl, hF, d0, d1, d2, d3, d4⟩ := BS H1.out.2.2.2 hq
   obtain ⟨qk, qa, qb, qc, qd⟩ := q
   simp only at d0 d1 d2 d3 d4
   have i1 : (0 : Int) <= (j : Int) := by omega
   have i2 : (j : Int) < (N : Int) := by omega
   have HD := Lib.hid (And.intro d0 (And.intro d1 (And.intro d2 (And.intro d3 d4))))
   have HE := Lib.hid (And.intro heq (And.intro hol hdr))
   have HW := Lib.hid (And.intro hown hb)
   clear hown heq hol hb hq hdr d0 d1 d2 d3 d4
   by_cases he : qk = k
   ·subst he
    have HT := Lib.hid (aM qk)
    have g1 : Op.bytesLess qk qk = false := by rw [bytesLess_eq]; simp [aM]
    cases dn with
    | true =>
     have x0 := aa HW.out.2 HX.out.1
     have x1 := aa HW.out.2 HX.out.2.1
     have x2 := aa HW.out.2 HX.out.2.2.1
     have x3 := aa HW.out.2 HX.out.2.2.2.1
     have x4 := aa HW.out.2 HX.out.2.2.2.2
     have d0 := aa HW.out.2 HD.out.1
     have d1 := aa HW.out.2 HD.out.2.1
     have d2 := aa HW.out.2 HD.out.2.2.1
     have d3 := aa HW.out.2 HD.out.2.2.2.1
     have d4 := aa HW.out.2 HD.out.2.2.2.2
     go_wp2_with fail
     have nO := Lib.hid (show ∀ n, dV w1.heap.size _ (out) (wr.drewN n) /\ Below w1.heap.size w1 (wr.drewN n) from fun n => ⟨aU HW.out.1 ((Only.refl (fun _ => False) wr).drewN n) (fun _ _ h => h), Only.au ((Only.of_below HW.out.2 (fun _ => False)).drewN n) (Nat.le_refl _) (fun _ _ h => h)⟩)
     go_quiet (fail)
     rename_i nq
     have HA := Lib.hid (nO.out nq)
     clear nO HW
     generalize wr.drewN nq = wa at HA ⊢
     clear x0 x1 x2 x3 x4 d0 d1 d2 d3 d4
     have x0 := aa HA.out.2 HX.out.1
     have x1 := aa HA.out.2 HX.out.2.1
     have x2 := aa HA.out.2 HX.out.2.2.1
     have x3 := aa HA.out.2 HX.out.2.2.2.1
     have x4 := aa HA.out.2 HX.out.2.2.2.2
     have d0 := aa HA.out.2 HD.out.1
     have d1 := aa HA.out.2 HD.out.2.1
     have d2 := aa HA.out.2 HD.out.2.2.1
     have d3 := aa HA.out.2 HD.out.2.2.2.1
     have d4 := aa HA.out.2 HD.out.2.2.2.2
     go_upto_region 9 with fail
     have nO := Lib.hid (show ∀ n, dV w1.heap.size _ (out) (wa.drewN n) /\ Below w1.heap.size w1 (wa.drewN n) from fun n => ⟨aU HA.out.1 ((Only.refl (fun _ => False) wa).drewN n) (fun _ _ h => h), Only.au ((Only.of_below HA.out.2 (fun _ => False)).drewN n) (Nat.le_refl _) (fun _ _ h => h)⟩)
     go_quiet (fail)
     rename_i nq
     have HB := Lib.hid (nO.out nq)
     clear nO HA
     generalize wa.drewN nq = wb at HB ⊢
     clear x0 x1 x2 x3 x4 d0 d1 d2 d3 d4
     go_wp2_with fail
     go_roundw
     case rel =>
      refine ⟨j + 1, true, out, by omega, by go_num, rfl, HB.out.1, ?_, by have := HE.out.2.1; simp; omega, HB.out.2⟩
      rw [<- HE.out.1, HE.out.2.2]
      simp only [ig]
      simp
     case measure => simp [intOf]; omega
    | false =>
     have x0 := aa HW.out.2 HX.out.1
     have x1 := aa HW.out.2 HX.out.2.1
     have x2 := aa HW.out.2 HX.out.2.2.1
     have x3 := aa HW.out.2 HX.out.2.2.2.1
     have x4 := aa HW.out.2 HX.out.2.2.2.2
     have d0 := aa HW.out.2 HD.out.1
     have d1 := aa HW.out.2 HD.out.2.1
     have d2 := aa HW.out.2 HD.out.2.2.1
     have d3 := aa HW.out.2 HD.out.2.2.2.1
     have d4 := aa HW.out.2 HD.out.2.2.2.2
     go_wp2_with fail
     have nO := Lib.hid (show ∀ n, dV w1.heap.size _ (out) (wr.drewN n) /\ Below w1.heap.size w1 (wr.drewN n) from fun n => ⟨aU HW.out.1 ((Only.refl (fun _ => False) wr).drewN n) (fun _ _ h => h), Only.au ((Only.of_below HW.out.2 (fun _ => False)).drewN n) (Nat.le_refl _) (fun _ _ h => h)⟩)
     go_quiet (fail)
     rename_i nq
     have HA := Lib.hid (nO.out nq)
     clear nO HW
     generalize wr.drewN nq = wa at HA ⊢
     clear x0 x1 x2 x3 x4 d0 d1 d2 d3 d4
     have x0 := aa HA.out.2 HX.out.1
     have x1 := aa HA.out.2 HX.out.2.1
     have x2 := aa HA.out.2 HX.out.2.2.1
     have x3 := aa HA.out.2 HX.out.2.2.2.1
     have x4 := aa HA.out.2 HX.out.2.2.2.2
     have d0 := aa HA.out.2 HD.out.1
     have d1 := aa HA.out.2 HD.out.2.1
     have d2 := aa HA.out.2 HD.out.2.2.1
     have d3 := aa HA.out.2 HD.out.2.2.2.1
     have d4 := aa HA.out.2 HD.out.2.2.2.2
     have hbz := ag wa (.cells #[.string ⟨qk.toArray⟩, .int .i64 ra, .int .i64 rb, .int .i64 rc, .int .i64 rd] 44)
     have HZ := Lib.hid (And.intro hbz (And.intro (oO (q := (qk, ⟨ra, rb, rc, rd⟩)) (heap_alloc_new wa (.cells #[.string ⟨qk.toArray⟩, .int .i64 ra, .int .i64 rb, .int .i64 rc, .int .i64 rd] 44))) (aC HA.out.1 hbz)))
     clear hbz
     go_upto_region 8 with (at_builtin; go_loud (refine aH _ rfl _ _ 40 rfl w1.heap.size 44 i0 _ 5 48 Tryz.underlying40 HI.out hz0 hz1 hz2 rfl (by decide) _ _ _ rfl HZ.out.2.2 (fun _ => True) (.slice (some ⟨wa.heap.size, 0, none⟩) 1 1) ([(qk, ⟨ra, rb, rc, rd⟩)].map rH) rfl HZ.out.2.1 (gZ _) (oN _) (by have := HE.out.2.1; simp; omega) (by have := HE.out.2.1; simp [maxLen]; omega) (by have := HA.out.2.size; have := HZ.out.1.size; omega) ?_); intro v5 wb bq cK lH)
     have HB := Lib.hid (show dV w1.heap.size v5 (out ++ [(qk, ⟨ra, rb, rc, rd⟩)]) wb /\ Below w1.heap.size w1 wb from by
      refine ⟨?_, (HA.out.2.trans (HZ.out.1.mono HA.out.2.size)).trans ((Only.of_grownBy cK).au (Nat.le_trans HA.out.2.size HZ.out.1.size) (fun g hg e => ?_))⟩
      ·unfold dV
       rw [mb, List.length_append]
       exact bq
      ·have h1 := (HA.out.1.lt g e).1
       omega)
     clear bq cK lH HZ
     clear x0 x1 x2 x3 x4 d0 d1 d2 d3 d4
     have x0 := aa HB.out.2 HX.out.1
     have x1 := aa HB.out.2 HX.out.2.1
     have x2 := aa HB.out.2 HX.out.2.2.1
     have x3 := aa HB.out.2 HX.out.2.2.2.1
     have x4 := aa HB.out.2 HX.out.2.2.2.2
     have d0 := aa HB.out.2 HD.out.1
     have d1 := aa HB.out.2 HD.out.2.1
     have d2 := aa HB.out.2 HD.out.2.2.1
     have d3 := aa HB.out.2 HD.out.2.2.2.1
     have d4 := aa HB.out.2 HD.out.2.2.2.2
     clear HA
     go_upto_region 9 with fail
     have nO := Lib.hid (show ∀ n, dV w1.heap.size _ (out ++ [(qk, ⟨ra, rb, rc, rd⟩)]) (wb.drewN n) /\ Below w1.heap.size w1 (wb.drewN n) from fun n => ⟨aU HB.out.1 ((Only.refl (fun _ => False) wb).drewN n) (fun _ _ h => h), Only.au ((Only.of_below HB.out.2 (fun _ => False)).drewN n) (Nat.le_refl _) (fun _ _ h => h)⟩)
     go_quiet (fail)
     rename_i nq
     have HC := Lib.hid (nO.out nq)
     clear nO HB
     generalize wb.drewN nq = wc at HC ⊢
     clear x0 x1 x2 x3 x4 d0 d1 d2 d3 d4
     go_wp2_with fail
     go_roundw
     case rel =>
      refine ⟨j + 1, true, out ++ [(qk, ⟨ra, rb, rc, rd⟩)], by omega, by go_num, rfl, HC.out.1, ?_, by have := HE.out.2.1; simp; omega, HC.out.2⟩
      rw [<- HE.out.1, HE.out.2.2]
      simp only [ig]
      rw [if_pos (by simp [HT.out]), if_neg (by simp), decide_eq_false HT.out]; simp
     case measure => simp [intOf]; omega
   ·have HN := Lib.hid he
    have g2 : (k == qk) = false := beq_eq_false_iff_ne.2 (fun e => he e.symm)
    have g3 : (qk == k) = false := beq_eq_false_iff_ne.2 he
    have g4 : ¬ qk.toArray = k.toArray := fun e => he (by simpa using e)
    cases dn with
    | true =>
     clear he
     have x0 := aa HW.out.2 HX.out.1
     have x1 := aa HW.out.2 HX.out.2.1
     have x2 := aa HW.out.2 HX.out.2.2.1
     have x3 := aa HW.out.2 HX.out.2.2.2.1
     have x4 := aa HW.out.2 HX.out.2.2.2.2
     have d0 := aa HW.out.2 HD.out.1
     have d1 := aa HW.out.2 HD.out.2.1
     have d2 := aa HW.out.2 HD.out.2.2.1
     have d3 := aa HW.out.2 HD.out.2.2.2.1
     have d4 := aa HW.out.2 HD.out.2.2.2.2
     go_wp2_with fail
     have nO := Lib.hid (show ∀ n, dV w1.heap.size _ (out) (wr.drewN n) /\ Below w1.heap.size w1 (wr.drewN n) from fun n => ⟨aU HW.out.1 ((Only.refl (fun _ => False) wr).drewN n) (fun _ _ h => h), Only.au ((Only.of_below HW.out.2 (fun _ => False)).drewN n) (Nat.le_refl _) (fun _ _ h => h)⟩)
     go_quiet (fail)
     rename_i nq
     have HA := Lib.hid (nO.out nq)
     clear nO HW
     generalize wr.drewN nq = wa at HA ⊢
     clear x0 x1 x2 x3 x4 d0 d1 d2 d3 d4
     have x0 := aa HA.out.2 HX.out.1
     have x1 := aa HA.out.2 HX.out.2.1
     have x2 := aa HA.out.2 HX.out.2.2.1
     have x3 := aa HA.out.2 HX.out.2.2.2.1
     have x4 := aa HA.out.2 HX.out.2.2.2.2
     have d0 := aa HA.out.2 HD.out.1
     have d1 := aa HA.out.2 HD.out.2.1
     have d2 := aa HA.out.2 HD.out.2.2.1
     have d3 := aa HA.out.2 HD.out.2.2.2.1
     have d4 := aa HA.out.2 HD.out.2.2.2.2
     go_upto_region 9 with fail
     have nO := Lib.hid (show ∀ n, dV w1.heap.size _ (out) (wa.drewN n) /\ Below w1.heap.size w1 (wa.drewN n) from fun n => ⟨aU HA.out.1 ((Only.refl (fun _ => False) wa).drewN n) (fun _ _ h => h), Only.au ((Only.of_below HA.out.2 (fun _ => False)).drewN n) (Nat.le_refl _) (fun _ _ h => h)⟩)
     go_quiet (fail)
     rename_i nq
     have HB := Lib.hid (nO.out nq)
     clear nO HA
     generalize wa.drewN nq = wb at HB ⊢
     clear x0 x1 x2 x3 x4 d0 d1 d2 d3 d4
     have x0 := aa HB.out.2 HX.out.1
     have x1 := aa HB.out.2 HX.out.2.1
     have x2 := aa HB.out.2 HX.out.2.2.1
     have x3 := aa HB.out.2 HX.out.2.2.2.1
     have x4 := aa HB.out.2 HX.out.2.2.2.2
     have d0 := aa HB.out.2 HD.out.1
     have d1 := aa HB.out.2 HD.out.2.1
     have d2 := aa HB.out.2 HD.out.2.2.1
     have d3 := aa HB.out.2 HD.out.2.2.2.1
     have d4 := aa HB.out.2 HD.out.2.2.2.2
     have hbz := ag wb (.cells #[.string ⟨qk.toArray⟩, .int .i64 qa, .int .i64 qb, .int .i64 qc, .int .i64 qd] 44)
     have HZ := Lib.hid (And.intro hbz (And.intro (oO (q := (qk, ⟨qa, qb, qc, qd⟩)) (heap_alloc_new wb (.cells #[.string ⟨qk.toArray⟩, .int .i64 qa, .int .i64 qb, .int .i64 qc, .int .i64 qd] 44))) (aC HB.out.1 hbz)))
     clear hbz
     go_upto_region 5 with (at_builtin; go_loud (refine aH _ rfl _ _ 40 rfl w1.heap.size 44 i0 _ 5 48 Tryz.underlying40 HI.out hz0 hz1 hz2 rfl (by decide) _ _ _ rfl HZ.out.2.2 (fun _ => True) (.slice (some ⟨wb.heap.size, 0, none⟩) 1 1) ([(qk, ⟨qa, qb, qc, qd⟩)].map rH) rfl HZ.out.2.1 (gZ _) (oN _) (by have := HE.out.2.1; simp; omega) (by have := HE.out.2.1; simp [maxLen]; omega) (by have := HB.out.2.size; have := HZ.out.1.size; omega) ?_); intro v5 wc bq cK lH)
     have HC := Lib.hid (show dV w1.heap.size v5 (out ++ [(qk, ⟨qa, qb, qc, qd⟩)]) wc /\ Below w1.heap.size w1 wc from by
      refine ⟨?_, (HB.out.2.trans (HZ.out.1.mono HB.out.2.size)).trans ((Only.of_grownBy cK).au (Nat.le_trans HB.out.2.size HZ.out.1.size) (fun g hg e => ?_))⟩
      ·unfold dV
       rw [mb, List.length_append]
       exact bq
      ·have h1 := (HB.out.1.lt g e).1
       omega)
     clear bq cK lH HZ
     clear x0 x1 x2 x3 x4 d0 d1 d2 d3 d4
     go_wp2_with fail
     go_roundw
     case rel =>
      refine ⟨j + 1, true, out ++ [(qk, ⟨qa, qb, qc, qd⟩)], by omega, by go_num, rfl, HC.out.1, ?_, by have := HE.out.2.1; simp; omega, HC.out.2⟩
      rw [<- HE.out.1, HE.out.2.2]
      simp only [ig]
      rw [if_neg (by simp), if_pos HN.out]; simp
     case measure => simp [intOf]; omega
    | false =>
     by_cases hl2 : qk < k
     ·have HT := Lib.hid hl2
      have g1 : Op.bytesLess k qk = false := by rw [bytesLess_eq]; simp [lQ hl2]
      clear hl2 he
      have x0 := aa HW.out.2 HX.out.1
      have x1 := aa HW.out.2 HX.out.2.1
      have x2 := aa HW.out.2 HX.out.2.2.1
      have x3 := aa HW.out.2 HX.out.2.2.2.1
      have x4 := aa HW.out.2 HX.out.2.2.2.2
      have d0 := aa HW.out.2 HD.out.1
      have d1 := aa HW.out.2 HD.out.2.1
      have d2 := aa HW.out.2 HD.out.2.2.1
      have d3 := aa HW.out.2 HD.out.2.2.2.1
      have d4 := aa HW.out.2 HD.out.2.2.2.2
      go_wp2_with fail
      have nO := Lib.hid (show ∀ n, dV w1.heap.size _ (out) (wr.drewN n) /\ Below w1.heap.size w1 (wr.drewN n) from fun n => ⟨aU HW.out.1 ((Only.refl (fun _ => False) wr).drewN n) (fun _ _ h => h), Only.au ((Only.of_below HW.out.2 (fun _ => False)).drewN n) (Nat.le_refl _) (fun _ _ h => h)⟩)
      go_quiet (fail)
      rename_i nq
      have HA := Lib.hid (nO.out nq)
      clear nO HW
      generalize wr.drewN nq = wa at HA ⊢
      clear x0 x1 x2 x3 x4 d0 d1 d2 d3 d4
      have x0 := aa HA.out.2 HX.out.1
      have x1 := aa HA.out.2 HX.out.2.1
      have x2 := aa HA.out.2 HX.out.2.2.1
      have x3 := aa HA.out.2 HX.out.2.2.2.1
      have x4 := aa HA.out.2 HX.out.2.2.2.2
      have d0 := aa HA.out.2 HD.out.1
      have d1 := aa HA.out.2 HD.out.2.1
      have d2 := aa HA.out.2 HD.out.2.2.1
      have d3 := aa HA.out.2 HD.out.2.2.2.1
      have d4 := aa HA.out.2 HD.out.2.2.2.2
      go_upto_region 9 with fail
      have nO := Lib.hid (show ∀ n, dV w1.heap.size _ (out) (wa.drewN n) /\ Below w1.heap.size w1 (wa.drewN n) from fun n => ⟨aU HA.out.1 ((Only.refl (fun _ => False) wa).drewN n) (fun _ _ h => h), Only.au ((Only.of_below HA.out.2 (fun _ => False)).drewN n) (Nat.le_refl _) (fun _ _ h => h)⟩)
      go_quiet (fail)
      rename_i nq
      have HB := Lib.hid (nO.out nq)
      clear nO HA
      generalize wa.drewN nq = wb at HB ⊢
      clear x0 x1 x2 x3 x4 d0 d1 d2 d3 d4
      have x0 := aa HB.out.2 HX.out.1
      have x1 := aa HB.out.2 HX.out.2.1
      have x2 := aa HB.out.2 HX.out.2.2.1
      have x3 := aa HB.out.2 HX.out.2.2.2.1
      have x4 := aa HB.out.2 HX.out.2.2.2.2
      have d0 := aa HB.out.2 HD.out.1
      have d1 := aa HB.out.2 HD.out.2.1
      have d2 := aa HB.out.2 HD.out.2.2.1
      have d3 := aa HB.out.2 HD.out.2.2.2.1
      have d4 := aa HB.out.2 HD.out.2.2.2.2
      have hbz := ag wb (.cells #[.string ⟨qk.toArray⟩, .int .i64 qa, .int .i64 qb, .int .i64 qc, .int .i64 qd] 44)
      have HZ := Lib.hid (And.intro hbz (And.intro (oO (q := (qk, ⟨qa, qb, qc, qd⟩)) (heap_alloc_new wb (.cells #[.string ⟨qk.toArray⟩, .int .i64 qa, .int .i64 qb, .int .i64 qc, .int .i64 qd] 44))) (aC HB.out.1 hbz)))
      clear hbz
      go_upto_region 5 with (at_builtin; go_loud (refine aH _ rfl _ _ 40 rfl w1.heap.size 44 i0 _ 5 48 Tryz.underlying40 HI.out hz0 hz1 hz2 rfl (by decide) _ _ _ rfl HZ.out.2.2 (fun _ => True) (.slice (some ⟨wb.heap.size, 0, none⟩) 1 1) ([(qk, ⟨qa, qb, qc, qd⟩)].map rH) rfl HZ.out.2.1 (gZ _) (oN _) (by have := HE.out.2.1; simp; omega) (by have := HE.out.2.1; simp [maxLen]; omega) (by have := HB.out.2.size; have := HZ.out.1.size; omega) ?_); intro v5 wc bq cK lH)
      have HC := Lib.hid (show dV w1.heap.size v5 (out ++ [(qk, ⟨qa, qb, qc, qd⟩)]) wc /\ Below w1.heap.size w1 wc from by
       refine ⟨?_, (HB.out.2.trans (HZ.out.1.mono HB.out.2.size)).trans ((Only.of_grownBy cK).au (Nat.le_trans HB.out.2.size HZ.out.1.size) (fun g hg e => ?_))⟩
       ·unfold dV
        rw [mb, List.length_append]
        exact bq
       ·have h1 := (HB.out.1.lt g e).1
        omega)
      clear bq cK lH HZ
      clear x0 x1 x2 x3 x4 d0 d1 d2 d3 d4
      go_wp2_with fail
      go_roundw
      case rel =>
       refine ⟨j + 1, false, out ++ [(qk, ⟨qa, qb, qc, qd⟩)], by omega, by go_num, rfl, HC.out.1, ?_, by have := HE.out.2.1; simp; omega, HC.out.2⟩
       rw [<- HE.out.1, HE.out.2.2]
       simp only [ig]
       rw [if_neg (by simp [HT.out]), if_pos HN.out, decide_eq_true HT.out]; simp
      case measure => simp [intOf]; omega
     ·have HT := Lib.hid hl2
      have g1 : Op.bytesLess k qk = true := by
       rw [bytesLess_eq]
       have : k < qk := (og hl2).elim id (fun e => absurd e.symm he)
       simp [this]
      clear hl2 he
      have x0 := aa HW.out.2 HX.out.1
      have x1 := aa HW.out.2 HX.out.2.1
      have x2 := aa HW.out.2 HX.out.2.2.1
      have x3 := aa HW.out.2 HX.out.2.2.2.1
      have x4 := aa HW.out.2 HX.out.2.2.2.2
      have d0 := aa HW.out.2 HD.out.1
      have d1 := aa HW.out.2 HD.out.2.1
      have d2 := aa HW.out.2 HD.out.2.2.1
      have d3 := aa HW.out.2 HD.out.2.2.2.1
      have d4 := aa HW.out.2 HD.out.2.2.2.2
      go_wp2_with fail
      have nO := Lib.hid (show ∀ n, dV w1.heap.size _ (out) (wr.drewN n) /\ Below w1.heap.size w1 (wr.drewN n) from fun n => ⟨aU HW.out.1 ((Only.refl (fun _ => False) wr).drewN n) (fun _ _ h => h), Only.au ((Only.of_below HW.out.2 (fun _ => False)).drewN n) (Nat.le_refl _) (fun _ _ h => h)⟩)
      go_quiet (fail)
      rename_i nq
      have HA := Lib.hid (nO.out nq)
      clear nO HW
      generalize wr.drewN nq = wa at HA ⊢
      clear x0 x1 x2 x3 x4 d0 d1 d2 d3 d4
      have x0 := aa HA.out.2 HX.out.1
      have x1 := aa HA.out.2 HX.out.2.1
      have x2 := aa HA.out.2 HX.out.2.2.1
      have x3 := aa HA.out.2 HX.out.2.2.2.1
      have x4 := aa HA.out.2 HX.out.2.2.2.2
      have d0 := aa HA.out.2 HD.out.1
      have d1 := aa HA.out.2 HD.out.2.1
      have d2 := aa HA.out.2 HD.out.2.2.1
      have d3 := aa HA.out.2 HD.out.2.2.2.1
      have d4 := aa HA.out.2 HD.out.2.2.2.2
      have hbz := ag wa (.cells #[.string ⟨k.toArray⟩, .int .i64 ra, .int .i64 rb, .int .i64 rc, .int .i64 rd] 44)
      have HZ := Lib.hid (And.intro hbz (And.intro (oO (q := (k, ⟨ra, rb, rc, rd⟩)) (heap_alloc_new wa (.cells #[.string ⟨k.toArray⟩, .int .i64 ra, .int .i64 rb, .int .i64 rc, .int .i64 rd] 44))) (aC HA.out.1 hbz)))
      clear hbz
      go_upto_region 8 with (at_builtin; go_loud (refine aH _ rfl _ _ 40 rfl w1.heap.size 44 i0 _ 5 48 Tryz.underlying40 HI.out hz0 hz1 hz2 rfl (by decide) _ _ _ rfl HZ.out.2.2 (fun _ => True) (.slice (some ⟨wa.heap.size, 0, none⟩) 1 1) ([(k, ⟨ra, rb, rc, rd⟩)].map rH) rfl HZ.out.2.1 (gZ _) (oN _) (by have := HE.out.2.1; simp; omega) (by have := HE.out.2.1; simp [maxLen]; omega) (by have := HA.out.2.size; have := HZ.out.1.size; omega) ?_); intro v5 wb bq cK lH)
      have HB := Lib.hid (show dV w1.heap.size v5 (out ++ [(k, ⟨ra, rb, rc, rd⟩)]) wb /\ Below w1.heap.size w1 wb from by
       refine ⟨?_, (HA.out.2.trans (HZ.out.1.mono HA.out.2.size)).trans ((Only.of_grownBy cK).au (Nat.le_trans HA.out.2.size HZ.out.1.size) (fun g hg e => ?_))⟩
       ·unfold dV
        rw [mb, List.length_append]
        exact bq
       ·have h1 := (HA.out.1.lt g e).1
        omega)
      clear bq cK lH HZ
      clear x0 x1 x2 x3 x4 d0 d1 d2 d3 d4
      have x0 := aa HB.out.2 HX.out.1
      have x1 := aa HB.out.2 HX.out.2.1
      have x2 := aa HB.out.2 HX.out.2.2.1
      have x3 := aa HB.out.2 HX.out.2.2.2.1
      have x4 := aa HB.out.2 HX.out.2.2.2.2
      have d0 := aa HB.out.2 HD.out.1
      have d1 := aa HB.out.2 HD.out.2.1
      have d2 := aa HB.out.2 HD.out.2.2.1
      have d3 := aa HB.out.2 HD.out.2.2.2.1
      have d4 := aa HB.out.2 HD.out.2.2.2.2
      clear HA
      go_upto_region 9 with fail
      have nO := Lib.hid (show ∀ n, dV w1.heap.size _ (out ++ [(k, ⟨ra, rb, rc, rd⟩)]) (wb.drewN n) /\ Below w1.heap.size w1 (wb.drewN n) from fun n => ⟨aU HB.out.1 ((Only.refl (fun _ => False) wb).drewN n) (fun _ _ h => h), Only.au ((Only.of_below HB.out.2 (fun _ => False)).drewN n) (Nat.le_refl _) (fun _ _ h => h)⟩)
      go_quiet (fail)
      rename_i nq
      have HC := Lib.hid (nO.out nq)
      clear nO HB
      generalize wb.drewN nq = wc at HC ⊢
      clear x0 x1 x2 x3 x4 d0 d1 d2 d3 d4
      have x0 := aa HC.out.2 HX.out.1
      have x1 := aa HC.out.2 HX.out.2.1
      have x2 := aa HC.out.2 HX.out.2.2.1
      have x3 := aa HC.out.2 HX.out.2.2.2.1
      have x4 := aa HC.out.2 HX.out.2.2.2.2
      have d0 := aa HC.out.2 HD.out.1
      have d1 := aa HC.out.2 HD.out.2.1
      have d2 := aa HC.out.2 HD.out.2.2.1
      have d3 := aa HC.out.2 HD.out.2.2.2.1
      have d4 := aa HC.out.2 HD.out.2.2.2.2
      have hbz := ag wc (.cells #[.string ⟨qk.toArray⟩, .int .i64 qa, .int .i64 qb, .int .i64 qc, .int .i64 qd] 44)
      have HZ := Lib.hid (And.intro hbz (And.intro (oO (q := (qk, ⟨qa, qb, qc, qd⟩)) (heap_alloc_new wc (.cells #[.string ⟨qk.toArray⟩, .int .i64 qa, .int .i64 qb, .int .i64 qc, .int .i64 qd] 44))) (aC HC.out.1 hbz)))
      clear hbz
      go_upto_region 5 with (at_builtin; go_loud (refine aH _ rfl _ _ 40 rfl w1.heap.size 44 i0 _ 5 48 Tryz.underlying40 HI.out hz0 hz1 hz2 rfl (by decide) _ _ _ rfl HZ.out.2.2 (fun _ => True) (.slice (some ⟨wc.heap.size, 0, none⟩) 1 1) ([(qk, ⟨qa, qb, qc, qd⟩)].map rH) rfl HZ.out.2.1 (gZ _) (oN _) (by have := HE.out.2.1; simp; omega) (by have := HE.out.2.1; simp [maxLen]; omega) (by have := HC.out.2.size; have := HZ.out.1.size; omega) ?_); intro v5 wg bq cK lH)
      have HG := Lib.hid (show dV w1.heap.size v5 ((out ++ [(k, ⟨ra, rb, rc, rd⟩)]) ++ [(qk, ⟨qa, qb, qc, qd⟩)]) wg /\ Below w1.heap.size w1 wg from by
       refine ⟨?_, (HC.out.2.trans (HZ.out.1.mono HC.out.2.size)).trans ((Only.of_grownBy cK).au (Nat.le_trans HC.out.2.size HZ.out.1.size) (fun g hg e => ?_))⟩
       ·unfold dV
        rw [mb, List.length_append]
        exact bq
       ·have h1 := (HC.out.1.lt g e).1
        omega)
      clear bq cK lH HZ
      clear x0 x1 x2 x3 x4 d0 d1 d2 d3 d4
      go_wp2_with fail
      go_roundw
      case rel =>
       refine ⟨j + 1, true, (out ++ [(k, ⟨ra, rb, rc, rd⟩)]) ++ [(qk, ⟨qa, qb, qc, qd⟩)], by omega, by go_num, rfl, HG.out.1, ?_, by have := HE.out.2.1; simp; omega, HG.out.2⟩
       rw [<- HE.out.1, HE.out.2.2]
       simp only [ig]
       rw [if_pos (by simp [HT.out]), if_pos HN.out, decide_eq_false HT.out]; simp
      case measure => simp [intOf]; omega
  ·obtain rfl : j = N := by omega
   have HW := Lib.hid (And.intro hown (And.intro heq (And.intro hol hb)))
   have hnil : l.drop j = [] := List.drop_eq_nil_of_le (by rw [HL.out]; exact Nat.le_refl _)
   have HN := Lib.hid hnil
   have hb3 : Below w.heap.size w wr := H1.out.1.trans (hb.mono H1.out.1.size)
   have HB := Lib.hid hb3
   clear hown heq hol hb hnil hb3
   cases dn with
   | true =>
    go_wp2_with fail
    go_ret
    refine ⟨_, rfl, ?_, HB.out⟩
    have h := HW.out.2.1
    rw [HN.out] at h
    simp only [ig, if_true, List.append_nil] at h
    rw [<- h]
    exact dO HW.out.1 (fun g hg => by have := (HW.out.1.lt g hg).1; have := H1.out.1.size; omega)
   | false =>
    have HV := Lib.hid (And.intro HW.out.1 HW.out.2.2.2)
    have x0 := aa HV.out.2 HX.out.1
    have x1 := aa HV.out.2 HX.out.2.1
    have x2 := aa HV.out.2 HX.out.2.2.1
    have x3 := aa HV.out.2 HX.out.2.2.2.1
    have x4 := aa HV.out.2 HX.out.2.2.2.2
    have hbz := ag wr (.cells #[.string ⟨k.toArray⟩, .int .i64 ra, .int .i64 rb, .int .i64 rc, .int .i64 rd] 44)
    have HZ := Lib.hid (And.intro hbz (And.intro (oO (q := (k, ⟨ra, rb, rc, rd⟩)) (heap_alloc_new wr (.cells #[.string ⟨k.toArray⟩, .int .i64 ra, .int .i64 rb, .int .i64 rc, .int .i64 rd] 44))) (aC HV.out.1 hbz)))
    clear hbz
    go_upto_region 13 with (at_builtin; go_loud (refine aH _ rfl _ _ 40 rfl w1.heap.size 44 i0 _ 5 48 Tryz.underlying40 HI.out hz0 hz1 hz2 rfl (by decide) _ _ _ rfl HZ.out.2.2 (fun _ => True) (.slice (some ⟨wr.heap.size, 0, none⟩) 1 1) ([(k, ⟨ra, rb, rc, rd⟩)].map rH) rfl HZ.out.2.1 (gZ _) (oN _) (by have := HW.out.2.2.1; simp; omega) (by have := HW.out.2.2.1; simp [maxLen]; omega) (by have := HV.out.2.size; have := HZ.out.1.size; omega) ?_); intro v5 wc bq cK lH)
    have HC := Lib.hid (show dV w1.heap.size v5 (out ++ [(k, ⟨ra, rb, rc, rd⟩)]) wc /\ Below w1.heap.size w1 wc from by
     refine ⟨?_, (HV.out.2.trans (HZ.out.1.mono HV.out.2.size)).trans ((Only.of_grownBy cK).au (Nat.le_trans HV.out.2.size HZ.out.1.size) (fun g hg e => ?_))⟩
     ·unfold dV
      rw [mb, List.length_append]
      exact bq
     ·have h1 := (HV.out.1.lt g e).1
      omega)
    clear bq cK lH HZ
    clear x0 x1 x2 x3 x4
    go_wp2_with fail
    go_ret
    have hb3 : Below w.heap.size w wc := H1.out.1.trans (HC.out.2.mono H1.out.1.size)
    refine ⟨_, rfl, ?_, hb3⟩
    have h := HW.out.2.1
    rw [HN.out] at h
    simp only [ig, Bool.false_eq_true, if_false] at h
    rw [<- h]
    exact dO HC.out.1 (fun g hg => by have := (HC.out.1.lt g hg).1; have := H1.out.1.size; omega)
end Go.Proofs.YtagemonojdgbdaaGreatDoor
