import Derived.Test.YtagemonojdgbdaaGreatDoorQ27
import Derived.Test.YtagemonojdgbdaaGreatDoorQ28
namespace Go.Proofs.YtagemonojdgbdaaGreatDoor
set_option maxRecDepth 100000
open Go.RowKit
theorem lI {w : World} {b : Nat} {l : List Cl} {cs : Array Value} {t : TypeId} {F : Nat -> Prop} (h : w.heap[b]? = some (.cells cs t (0, 0))) (he : cs.toList = (l.map Cl.cells).flatten) (hF : F b) (hl : l.length <= maxLen) : cd w F (.slice (some ⟨b, 0, none⟩) l.length l.length) l := by
 refine ⟨_, _, _, rfl, by simp, Nat.le_refl _, hl, fun _ => ⟨b, 0, rfl, hF, fun i x hi j u hj => ?_⟩⟩
 have h1 := jk (bI l) i x hi j u hj
 rw [<- he] at h1
 rw [Nat.zero_add]
 simp [World.cell?, h]
 simpa using h1
theorem pQ {P : Program} {w : World} {ops : Array Oper} {o : Oper} {a : Act} {K : Act -> World -> Prop} {Q : Exit -> Act -> World -> Prop} {E : Prop} (hgd : o.guard = none) (s x : Operand) (t : TypeId)
  (ho : o.op = .call { callee := .builtin .append, args := #[s, x], argTypes := #[t, t] })
  (base : Nat) (e : TypeId) (i : TypeInfo) (z : Value) (k bytes : Nat) (ht : P.underlying t = some (.slice e)) (hi : P.info? e = some i) (hz : i.zero = some z)
  (hsize : i.size = k) (hby : i.bytes = bytes) (hzs : z.cells.size = k) (dW : 0 < k)
  (v : Value) (n : Nat) (xs : List Value) (hs : a.eval s = v) (hown : w.ownsRow base e k v n xs) (F : Nat -> Prop) (vx : Value) (news : List (List Value)) (hx : a.eval x = vx) (hr : bE k w F vx news) (hk : ∀ y ∈ news, y.length = k) (h1 : ∀ u ∈ news.flatten, u.oneCell' = true)
  (hbytes : (n + news.length) * bytes <= 140737488355328) (h63 : n + news.length <= maxLen) (hbase : base <= w.heap.size)
  (h : ∀ v' w', w'.ownsRow base e k v' (n + news.length) (xs ++ news.flatten) -> w.grownBy w' v.ownBlock -> (v'.ownBlock = v.ownBlock \/ v'.ownBlock = some w.heap.size) -> K (a.put o.dst v') w') :
  if Region.wanted o (yielded ops a.tmps) = true then Oper.wp P o a w K Q else E := by
 have hw : Region.wanted o (yielded ops a.tmps) = true := by simp [Region.wanted, hgd]
 rw [if_pos hw]
 obtain ⟨v', w', hrun, h2, h3, h4⟩ := iQ (P := P) w base t o.type e i z k bytes ht hi hz hsize hby hzs dW v n xs hown F vx news hr hk h1 hbytes h63 hbase
 unfold Oper.wp execOp
 simp only [ho, resolve, invoke, builtin, Sem.run_bind, Sem.run_pure, Result.andThen_ok, List.map_toArray, List.map_cons, List.map_nil, hs, hx, hrun]
 exact h v' w' h2 h3 h4
def sJ (l : List Cl) (w : World) (v : Value) (n : Int) (w' : World) : Prop :=
 Below w.heap.size w w' /\ ((mF l ≠ 0 /\ v = .slice none 0 0 /\ n = mF l) \/ (mF l = 0 /\ ∃ out, fI l out /\ ((64 < out.length /\ v = .slice none 0 0 /\ n = 23) \/
  (out.length <= 64 /\ n = 0 /\ ∃ A c, v = .slice A out.length c /\ w'.ownsRow w.heap.size 48 5 (.slice A out.length c) out.length (out.map Cl.cells).flatten))))
theorem Fm.named {l : List Cl} {w w' : World} {e : Ending} (h : Fm l w e w') : ∃ v n, e = .returned (.tuple #[.agg #[v], .int .i64 n]) /\ sJ l w v n w' := by
 obtain ⟨hb, ⟨h1, rfl⟩ | ⟨h1, out, h2, ⟨h3, rfl⟩ | ⟨h3, A, c, rfl, h4⟩⟩⟩ := h
 ·exact ⟨_, _, rfl, hb, .inl ⟨h1, rfl, rfl⟩⟩
 ·exact ⟨_, _, rfl, hb, .inr ⟨h1, out, h2, .inl ⟨h3, rfl, rfl⟩⟩⟩
 ·exact ⟨_, _, rfl, hb, .inr ⟨h1, out, h2, .inr ⟨h3, rfl, A, c, rfl, h4⟩⟩⟩
theorem sJ.KO {l : List Cl} {w w' : World} {v : Value} {n : Int} (h : sJ l w v n w') : Fm l w (.returned (.tuple #[.agg #[v], .int .i64 n])) w' := by
 obtain ⟨hb, ⟨h1, rfl, rfl⟩ | ⟨h1, out, h2, ⟨h3, rfl, rfl⟩ | ⟨h3, rfl, A, c, rfl, h4⟩⟩⟩ := h
 ·exact ⟨hb, .inl ⟨h1, rfl⟩⟩
 ·exact ⟨hb, .inr ⟨h1, out, h2, .inl ⟨h3, rfl⟩⟩⟩
 ·exact ⟨hb, .inr ⟨h1, out, h2, .inr ⟨h3, A, c, rfl, h4⟩⟩⟩
theorem sJ.slice {l : List Cl} {w w' : World} {v : Value} {n : Int} (h : sJ l w v n w') : ∃ A m c, v = .slice A m c := by
 rcases h.2 with ⟨_, rfl, _⟩ | ⟨_, out, _, ⟨_, rfl, _⟩ | ⟨_, _, A, c, rfl, _⟩⟩
 ·exact ⟨_, _, _, rfl⟩
 ·exact ⟨_, _, _, rfl⟩
 ·exact ⟨_, _, _, rfl⟩
theorem sJ.set {l : List Cl} {w w' : World} {v : Value} {n : Int} (h : sJ l w v n w') {B : Nat} {t : TypeId} {cs : Array Value} {fr : Nat × Nat} (hB : w'.heap[B]? = some (.cells cs t fr)) (ht : (48 : TypeId) ≠ t) {w0 : World} (hw : Below w0.heap.size w0 w) (VF : w0.heap.size <= B) (u : Value) : sJ l w0 v n (w'.setCell ⟨B, 0, none⟩ u) := by
 refine ⟨(hw.trans (h.1.mono hw.size)).setCell VF _, ?_⟩
 rcases h.2 with h1 | ⟨h1, out, h2, h3 | ⟨h3, rfl, A, c, rfl, h4⟩⟩
 ·exact .inl h1
 ·exact .inr ⟨h1, out, h2, .inl h3⟩
 ·exact .inr ⟨h1, out, h2, .inr ⟨h3, rfl, A, c, rfl, aU (dO h4 (fun g hg => Nat.le_trans hw.size (h4.lt g hg).1)) (Only.aT w' B 0 u) (fun g hg e => by subst e; exact dH h4 hB ht hg)⟩⟩
set_option maxHeartbeats 1000000 in
theorem Ix (w : World) (F G : Nat -> Prop) (v u : Value) (a b : List Cl) (ha : cd w F v a) (hb : cd w G u b) (Ej : a.length <= 500) (hlb : b.length <= 500) (yQ : ∀ c ∈ a, c.fits) (QV : ∀ c ∈ b, c.fits) :
  Calls Tryz.prog 177 #[.agg #[v], .agg #[u]] w (Fm (a ++ b) w) := by
 obtain ⟨i2, hi2, hy0, hy1, hy2⟩ := info_parts Tryz.fZ
 obtain ⟨A, c, rfl, hnc, hcm⟩ := ha.slice
 obtain ⟨B, d, rfl, hnd, Pp⟩ := hb.slice
 have H := Lib.hid (And.intro ha hb)
 have Ib := Lib.hid hi2
 clear ha hb hi2
 go_enter Tryz.func177, Tryz.ntmps177
 go_wp2_with fail
 have ht := (Two.start w (.slice A a.length c) (.slice B b.length d)).alloc (.cells #[.slice none 0 0] 87)
 have hs0 : (((w.alloc (.cells #[.slice A a.length c] 87)).alloc (.cells #[.slice B b.length d] 87)).alloc (.cells #[.slice none 0 0] 87)).heap.size = w.heap.size + 1 + 1 + 1 := by simp
 have Bo := Cz w (.cells #[.slice A a.length c] 87) (.cells #[.slice B b.length d] 87) (.cells #[.slice none 0 0] 87)
 generalize ((w.alloc (.cells #[.slice A a.length c] 87)).alloc (.cells #[.slice B b.length d] 87)).alloc (.cells #[.slice none 0 0] 87) = W0 at ht hs0 Bo ⊢
 have hc0 := bz ht.2.1
 have hc1 := bz ht.2.2
 have hl0 : w.heap.size < W0.heap.size := by omega
 have Gu : w.heap.size + 1 < W0.heap.size := by omega
 have hl2 : w.heap.size + 1 + 1 < W0.heap.size := by omega
 have HW := Lib.hid (And.intro ht.1 (And.intro hs0 Bo))
 have qD : w.heap.size + 1 + 1 ≠ w.heap.size := by omega
 have pM : w.heap.size + 1 + 1 ≠ w.heap.size + 1 := by omega
 clear ht hs0 Bo
 go_region_held3 (fun w' => w'.cell? ⟨w.heap.size, 0, none⟩ = some (.slice A a.length c) /\ w'.cell? ⟨w.heap.size + 1, 0, none⟩ = some (.slice B b.length d)) (first | exact ⟨by assumption, by assumption⟩ | go_keep | exact ⟨(World.cell?_setCell_far _ _ _ _ qD).trans (by assumption), (World.cell?_setCell_far _ _ _ _ pM).trans (by assumption)⟩)
  (first | (go_at_call 52; refine (CW _ F _ a (bE.below H.out.1 HW.out.1.drew) (by omega)).mono ?_; rintro e w1 ⟨A1, c1, rfl, TI, hb1⟩; have Iy : Below W0.heap.size W0 w1 := ll hb1; have k0 := (Iy.cell (p := ⟨w.heap.size, 0, none⟩) hl0).trans hc0; have k1 := (Iy.cell (p := ⟨w.heap.size + 1, 0, none⟩) Gu).trans hc1; have H1 := Lib.hid (And.intro TI Iy); clear TI hb1 Iy) | (go_at_call 37; refine (zJ _ (fun _ => True) v2 (a ++ b) (bE.bC H2.out.1 (bI _) (by decide) (fun _ _ => trivial)) (by simp; omega) (fun c hc => (List.mem_append.1 hc).elim (yQ c) (QV c))).mono ?_; intro e w3 kM; obtain ⟨v3, n3, rfl, vQ⟩ := kM.named; obtain ⟨A3, m3, c3, rfl⟩ := vQ.slice; have hb3 := H2.out.2.trans (vQ.1.mono H2.out.2.size); have i0 := (hb3.cell (p := ⟨w.heap.size, 0, none⟩) hl0).trans hc0; have i1 := (hb3.cell (p := ⟨w.heap.size + 1, 0, none⟩) Gu).trans hc1; have KP := (hb3.block _ hl2).trans HW.out.2.2; have i3 := bz KP; have i4 := ez KP; have H3 := Lib.hid (And.intro vQ (And.intro hb3 KP)); clear vQ hb3 KP kM) | (refine pQ (by rfl) _ _ 37 (by rfl) W0.heap.size 48 i2 _ 5 48 Tryz.underlying37 Ib.out hy0 hy1 hy2 (by rfl) (by decide) (.slice A1 a.length c1) a.length _ (by rfl) H1.out.1 G (.slice B b.length d) (b.map Cl.cells) (by rfl) (bE.below H.out.2 (HW.out.1.trans (H1.out.2.mono (by omega)))) (bI _) (eQ _) (by rw [List.length_map]; omega) (by rw [List.length_map]; unfold maxLen; omega) H1.out.2.size ?_; intro v2 w2 LU hg2 FC; have hb2 : Below W0.heap.size W0 w2 := H1.out.2.grown hg2 H1.out.2.size (fun j hj => (H1.out.1.lt j hj).1); have j0 := (hb2.cell (p := ⟨w.heap.size, 0, none⟩) hl0).trans hc0; have j1 := (hb2.cell (p := ⟨w.heap.size + 1, 0, none⟩) Gu).trans hc1; have Od : w2.ownsRow W0.heap.size 48 5 v2 (a ++ b).length ((a ++ b).map Cl.cells).flatten := (by simpa using LU); have H2 := Lib.hid (And.intro Od hb2); clear LU hg2 FC Od hb2))
 obtain ⟨vQ, hb3, KP⟩ := H3.out
 have hh := heap_setCell_same w3 (w.heap.size + 1 + 1) 0 _ _ (.slice A3 m3 c3) KP
 clear i0 i1 i3 i4 j0 j1 k0 k1
 go_wp2_with fail
 refine bodyPost_ret (aA rfl _ _ _ _ _ _ _ rfl hh Tryz.underlying87 rfl (by kernel_rfl)) rfl ?_
 exact (vQ.set (w0 := w) KP (by decide) (HW.out.1.trans (H2.out.2.mono (by have := HW.out.2.1; omega))) (by omega) _).KO
def Good (l : List Cl) : Prop := ∀ c ∈ l, Ok c /\ c.fits
theorem Cl.KQ {c : Cl} (h : Ok c) : c.has (c.aG, c.key, c.lo) := ⟨rfl, rfl, Int.le_refl _, h.proper⟩
theorem Cl.KR {c : Cl} (h : Ok c) : c.has (c.aG, c.key, c.hi) := ⟨rfl, rfl, h.proper, Int.le_refl _⟩
theorem Da {l out : List Cl} (h : fI l out) (hg : Good l) : Good out := by
 have hp : ∀ t, 1 <= dN out t -> ∃ c ∈ l, c.has t := fun t ht => bO.1 (by rw [<- h.2]; exact ht)
 obtain ⟨⟨ks, W, R, rfl, hk, hn⟩, _⟩ := h
 intro c hc
 rcases cw.1 hc with ⟨x, hx, rfl⟩ | ⟨i, h0, h4, hi⟩
 ·obtain ⟨d, hd, hh⟩ := hp (-1, x.2, 0) (bO.2 ⟨sy x, hc, fG.2 rfl⟩)
  obtain ⟨ho, hf⟩ := hg d hd
  have hkey : d.key = x.2 := hh.2.1
  have CU : d.aG = -1 := hh.1
  rcases ho.parts with hpt | hpt
  ·exact ⟨Ok.of (.inl ⟨rfl, rfl, rfl, by show 1 <= x.2.length /\ x.2.length <= 16; rw [<- hkey]; exact hpt.2.2.2⟩), by
    have := hf.2.2.2
    rw [hkey] at this
    exact ⟨by unfold jD sy; simp, by unfold jD sy; simp, by unfold jD sy; simp, this⟩⟩
  ·omega
 ·have CU : c.aG = i /\ c.key = [] /\ c.lo <= c.hi := by
   rcases eY.1 hi with ⟨x, hx, rfl⟩ | ⟨x, hx, rfl⟩
   ·exact ⟨rfl, rfl, (hn i h0 h4).1.1 x hx⟩
   ·exact ⟨rfl, rfl, (hn i h0 h4).2.1.1 x hx⟩
  have hok : Ok c := Ok.of (.inr ⟨by omega, by omega, CU.2.1, CU.2.2⟩)
  obtain ⟨d, hd, hh⟩ := hp _ (bO.2 ⟨c, hc, Cl.KQ hok⟩)
  obtain ⟨d', hd', hh'⟩ := hp _ (bO.2 ⟨c, hc, Cl.KR hok⟩)
  have f1 := (hg d hd).2
  have f2 := (hg d' hd').2
  have g1 := hh.2.2
  have g2 := hh'.2.2
  simp only at g1 g2
  unfold Cl.fits jD at f1 f2
  refine ⟨hok, ?_, ?_, ?_, ?_⟩
  ·unfold jD; omega
  ·unfold jD; omega
  ·unfold jD; omega
  ·rw [CU.2.1]; simp
theorem zU : fI [] [] := ⟨⟨[], fun _ => [], fun _ => [], rfl, List.Pairwise.nil, fun i _ _ => ⟨⟨fun x hx => by simp at hx, List.Pairwise.nil⟩, ⟨fun x hx => by simp at hx, List.Pairwise.nil⟩, fun n h => absurd h (cU n)⟩⟩, fun _ => rfl⟩
theorem fI.unique {l a b : List Cl} (h : fI l a) (h' : fI l b) : a = b := xP h.1 h'.1 (fun t => (h.2 t).trans (h'.2 t).symm)
theorem fI.congr {l l' out : List Cl} (h : fI l out) (e : ∀ t, dN l' t = dN l t) : fI l' out := ⟨h.1, fun t => (h.2 t).trans (e t).symm⟩
theorem Good.ok {l : List Cl} (h : Good l) : ∀ c ∈ l, Ok c := fun c hc => (h c hc).1
theorem Good.fits {l : List Cl} (h : Good l) : ∀ c ∈ l, c.fits := fun c hc => (h c hc).2
theorem Good.proper {l : List Cl} (h : Good l) : ∀ c ∈ l, c.lo <= c.hi := fun c hc => (h c hc).1.proper
theorem Good.append {a b : List Cl} (h : Good a) (h' : Good b) : Good (a ++ b) := fun c hc => (List.mem_append.1 hc).elim (h c) (h' c)
theorem rI {c : Cl} {l : List Cl} : CX c l ↔ ∀ n, c.lo <= n -> n <= c.hi -> (if c.wr = true then 2 else 1) <= dN l (c.aG, c.key, n) := by
 unfold CX
 constructor
 ·intro h n h1 h2
  obtain ⟨d, hd, hc⟩ := h n h1 h2
  split
  ·rename_i hw
   have := fo.2 ⟨d, hd, (⟨hc.1, hc.2.1, hc.2.2.2⟩ : d.has (c.aG, c.key, n)), hc.2.2.1 hw⟩
   omega
  ·exact bO.2 ⟨d, hd, (⟨hc.1, hc.2.1, hc.2.2.2⟩ : d.has (c.aG, c.key, n))⟩
 ·intro h n h1 h2
  have := h n h1 h2
  split at this
  ·rename_i hw
   have hb := gg l (c.aG, c.key, n)
   obtain ⟨d, hd, hh, VG⟩ := fo.1 (show dN l (c.aG, c.key, n) = 2 by omega)
   exact ⟨d, hd, hh.1, hh.2.1, fun _ => VG, hh.2.2⟩
  ·rename_i hw
   obtain ⟨d, hd, hh⟩ := bO.1 this
   exact ⟨d, hd, hh.1, hh.2.1, fun e => absurd e hw, hh.2.2⟩
theorem zV {a b : List Cl} : ku a b ↔ ∀ t, dN a t <= dN b t := by
 unfold ku
 constructor
 ·intro h t
  refine Fe ?_ ?_
  ·rintro ⟨c, hc, hh, hw⟩
   have := rI.1 (h c hc) t.2.2 hh.2.2.1 hh.2.2.2
   rw [if_pos hw, hh.1, hh.2.1] at this
   have hb := gg b (t.1, t.2.1, t.2.2)
   exact fo.1 (show dN b t = 2 by obtain ⟨t1, t2, t3⟩ := t; simp only at this hb ⊢; omega)
  ·rintro ⟨c, hc, hh⟩
   have := rI.1 (h c hc) t.2.2 hh.2.2.1 hh.2.2.2
   rw [hh.1, hh.2.1] at this
   exact bO.1 (show 1 <= dN b t by obtain ⟨t1, t2, t3⟩ := t; simp only at this ⊢; split at this <;> omega)
 ·intro h c hc
  refine rI.2 fun n h1 h2 => ?_
  have hh : c.has (c.aG, c.key, n) := ⟨rfl, rfl, h1, h2⟩
  have := h (c.aG, c.key, n)
  split
  ·rename_i hw
   have := fo.2 ⟨c, hc, hh, hw⟩
   omega
  ·have := bO.2 ⟨c, hc, hh⟩
   omega
def mS : List (List UInt8) -> List (List UInt8)
 | [] => []
 | k :: l => if k ∈ l then mS l else k :: mS l
theorem kC {k : List UInt8} : ∀ {l : List (List UInt8)}, k ∈ mS l ↔ k ∈ l
 | [] => Iff.rfl
 | a :: l => by
  unfold mS
  split
  ·rename_i h
   rw [kC, List.mem_cons]
   constructor
   ·exact .inr
   ·rintro (rfl | h')
    ·exact h
    ·exact h'
  ·rw [List.mem_cons, List.mem_cons, kC]
theorem kD : ∀ (l : List (List UInt8)), (mS l).Nodup
 | [] => List.nodup_nil
 | a :: l => by
  unfold mS
  split
  ·exact kD l
  ·rename_i h
   exact List.nodup_cons.2 ⟨fun h' => h (kC.1 h'), kD l⟩
def Iz (l : List Cl) : List (List UInt8) := mS ((l.filter fun c => c.aG == -1).map Cl.key)
def vt (s : List (Int × Int)) : List (Int × Int) := s.mergeSort fun a b => decide (a.1 <= b.1)
theorem pF (s : List (Int × Int)) : (vt s).Perm s := List.mergeSort_perm _ _
theorem mG (s : List (Int × Int)) : iU (vt s) := by
 have := List.pairwise_mergeSort (le := fun a b : Int × Int => decide (a.1 <= b.1)) (fun a b c h h' => by simp at h h' ⊢; omega) (fun a b => by simp; omega) s
 exact this.imp (fun h => by simpa using h)
def Jy (l : List Cl) (i : Int) : List (Int × Int) := bK (vt (bQ l i true))
def Oe (l : List Cl) (i : Int) : List (Int × Int) := bp (bK (vt (bQ l i false))) (Jy l i)
def ba (l : List Cl) : List Cl := ((Iz l).mergeSort fun x y => decide (x <= y)).map (tM fun key => dN l (-1, key, 0)) ++ gX (Jy l) (Oe l) 4
theorem nQ {l : List Cl} (hl : ∀ c ∈ l, Ok c) : fI l (ba l) := by
 refine tT hl (kD _) (fun k => ?_) rfl (fun i _ => xZ hl (pF _) (pF _) (mG _) (mG _))
 rw [kC, List.mem_map]
 have hb := gg l (-1, k, 0)
 constructor
 ·rintro ⟨c, hc, rfl⟩
  simp only [List.mem_filter, beq_iff_eq] at hc
  have h1 := (hl c hc.1).parts
  have : 1 <= dN l (-1, c.key, 0) := bO.2 ⟨c, hc.1, hc.2, rfl, by show c.lo <= 0; omega, by show 0 <= c.hi; omega⟩
  omega
 ·intro h
  obtain ⟨c, hc, h1, h2, h3, h4⟩ := bO.1 (show 1 <= dN l (-1, k, 0) by omega)
  exact ⟨c, by simp only [List.mem_filter, beq_iff_eq]; exact ⟨hc, h1⟩, h2⟩
theorem iE {l out : List Cl} (hl : ∀ c ∈ l, Ok c) (h : fI l out) : out = ba l := h.unique (nQ hl)
theorem kE {l : List Cl} (hl : Good l) : Good (ba l) := Da (nQ hl.ok) hl
theorem oP {l : List Cl} (hl : ∀ c ∈ l, Ok c) (t : jo) : dN (ba l) t = dN l t := (nQ hl).2 t
theorem pG {a b : List Cl} (ha : ∀ c ∈ a, Ok c) (hb : ∀ c ∈ b, Ok c) (h : ∀ t, dN a t = dN b t) : ba a = ba b :=
 iE hb ((nQ ha).congr (fun t => (h t).symm))
theorem tV : ba [] = [] := (iE (fun c hc => by simp at hc) zU).symm
theorem yj {a b : List Cl} (hg : Good a) (hb : ∀ c ∈ b, Ok c) : ba (ba a ++ b) = ba (a ++ b) := by
 have ha := hg.ok
 have hn : ∀ c ∈ ba a, Ok c := (kE hg).ok
 refine pG (fun c hc => (List.mem_append.1 hc).elim (hn c) (hb c)) (fun c hc => (List.mem_append.1 hc).elim (ha c) (hb c)) (fun t => ?_)
 rw [kg, kg, oP ha]
theorem vv {a b : List Cl} (ha : ∀ c ∈ a, Ok c) (hb : ∀ c ∈ b, Ok c) (h : ku (ba b) (ba a)) : ba (a ++ b) = ba a := by
 refine pG (fun c hc => (List.mem_append.1 hc).elim (ha c) (hb c)) ha (fun t => ?_)
 have := zV.1 h t
 rw [oP ha, oP hb] at this
 rw [kg]
 omega
theorem sJ.norm {l : List Cl} {w w' : World} {v : Value} {n : Int} (h : sJ l w v n w') (ho : ∀ c ∈ l, Ok c) :
  (64 < (ba l).length /\ v = .slice none 0 0 /\ n = 23) \/ ((ba l).length <= 64 /\ n = 0 /\ ∃ A c, v = .slice A (ba l).length c /\ w'.ownsRow w.heap.size 48 5 (.slice A (ba l).length c) (ba l).length ((ba l).map Cl.cells).flatten) := by
 rcases h.2 with ⟨h1, _⟩ | ⟨_, out, h2, h3⟩
 ·exact absurd (rB ho) h1
 ·obtain rfl := iE ho h2
  exact h3
theorem gh : bL [] := ⟨fun x hx => by simp at hx, List.Pairwise.nil⟩
theorem rJ {x : Int × Int} (h : x.1 <= x.2) : bL [x] := ⟨fun y hy => by rw [List.mem_singleton] at hy; subst hy; exact h, List.pairwise_singleton _ _⟩
theorem FM {c : Cl} (h : Ok c) : fI [c] [c] := by
 refine ⟨?_, fun _ => rfl⟩
 obtain ⟨wr, aG, key, lo, hi⟩ := c
 rcases h.parts with ⟨rfl, rfl, rfl, _⟩ | ⟨h0, h4, rfl, hle⟩
 ·exact ⟨[(wr, key)], fun _ => [], fun _ => [], rfl, List.pairwise_singleton _ _, fun i _ _ => ⟨gh, gh, fun n hn => absurd hn (cU n)⟩⟩
 ·simp only at h0 h4 hle
  cases wr
  ·refine ⟨[], fun _ => [], fun i => if i = aG then [(lo, hi)] else [], ?_, List.Pairwise.nil, fun i _ _ => ⟨gh, ?_, fun n hn => absurd hn (cU n)⟩⟩
   ·have : aG = 0 \/ aG = 1 \/ aG = 2 \/ aG = 3 := by omega
    rcases this with rfl | rfl | rfl | rfl <;> rfl
   ·by_cases e : i = aG
    ·simp only [e, if_true]; exact rJ hle
    ·simp only [e, if_false]; exact gh
  ·refine ⟨[], fun i => if i = aG then [(lo, hi)] else [], fun _ => [], ?_, List.Pairwise.nil, fun i _ _ => ⟨?_, gh, fun n _ hn => absurd hn (cU n)⟩⟩
   ·have : aG = 0 \/ aG = 1 \/ aG = 2 \/ aG = 3 := by omega
    rcases this with rfl | rfl | rfl | rfl <;> rfl
   ·by_cases e : i = aG
    ·simp only [e, if_true]; exact rJ hle
    ·simp only [e, if_false]; exact gh
theorem jM {c : Cl} (h : Ok c) : ba [c] = [c] := (iE (fun x hx => by rw [List.mem_singleton] at hx; subst hx; exact h) (FM h)).symm

end Go.Proofs.YtagemonojdgbdaaGreatDoor
