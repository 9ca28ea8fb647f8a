import Derived.Test.YtagemonojdgbdaaGreatDoorQ05
import Derived.Test.YtagemonojdgbdaaGreatDoorQ08
import Derived.Test.YtagemonojdgbdaaGreatDoorQ13
namespace Go.Proofs.YtagemonojdgbdaaGreatDoor
set_option maxRecDepth 100000
open Go.RowKit
theorem cP (w : World) (a c : Nat) (A : Option Addr) (c1 : w.cell? ⟨a, 1, none⟩ = some (.slice A 0 c)) : Calls Tryz.prog 137 #[.pointer (some ⟨a, 0, none⟩)] w fun e w' => e = .returned (.bool true) /\ w = w' := by
 go_enter Tryz.func137, Tryz.ntmps137
 go_wp2_with fail
 go_ret
 exact ⟨rfl, rfl⟩
theorem dQ (w : World) (a n c : Nat) (A : Option Addr) (hn : 0 < n) (c1 : w.cell? ⟨a, 1, none⟩ = some (.slice A n c)) : Calls Tryz.prog 137 #[.pointer (some ⟨a, 0, none⟩)] w fun e w' => e = .returned (.bool false) /\ w = w' := by
 have hz : (((n : Int)) == 0) = false := by rw [beq_eq_false_iff_ne]; omega
 have hz2 : ¬ n = 0 := by omega
 go_enter Tryz.func137, Tryz.ntmps137
 go_wp2_with fail
 go_ret
 exact ⟨rfl, rfl⟩
theorem af {w : World} {l : Nat} {v u : Value} (h : w.heap[l]? = some (.cells #[v, u] 201 (0, 0))) : (w.cell? ⟨l, 0, none⟩ = some v /\ w.cell? ⟨l, 1, none⟩ = some u) /\ w.frozen? ⟨l, 0, none⟩ = false /\ w.frozen? ⟨l, 1, none⟩ = false := by
 simp [World.cell?, World.frozen?, h]
theorem gB {w : World} {l : Nat} {v u : Value} (h : w.heap[l]? = some (.cells #[v, u] 201 (0, 0))) (x : Value) : (w.setCell ⟨l, 0, none⟩ x).heap[l]? = some (.cells #[x, u] 201 (0, 0)) := by
 have := heap_setCell_same w l 0 _ _ x h
 simpa using this
theorem Bn {w : World} {l : Nat} {v u : Value} (h : w.heap[l]? = some (.cells #[v, u] 201 (0, 0))) (x : Value) : (w.setCell ⟨l, 1, none⟩ x).heap[l]? = some (.cells #[v, x] 201 (0, 0)) := by
 have := heap_setCell_same w l 1 _ _ x h
 simpa using this
theorem oD {P : Program} (t e : TypeId) (k : Nat) (ht : P.underlying t = some (.slice e)) (hsz : ∀ w, (sizeOf e).run P w = .ok k w) (b o len c l h mx : Nat) (h1 : l <= h) (h2 : h <= mx) (h3 : mx <= c) (hl : l < mx) (w : World) :
  (Instr.slice t (.slice (some ⟨b, o, none⟩) len c) (some (.int .i64 (l : Int))) (some (.int .i64 (h : Int))) (some (.int .i64 (mx : Int)))).run P w = .ok (.slice (some ⟨b, o + l * k, none⟩) (h - l) (mx - l)) w := by
 have hne : ¬ mx = l := by omega
 have Mz : ¬ l = mx := by omega
 have h4 : h <= c := by omega
 have h5 : l <= c := by omega
 simp [Instr.slice, run_underlying ht, Instr.sliceBounds, run_sliceBound, h1, h2, h3, hsz, hne, Addr.add_lit]
theorem oF {P : Program} (t e : TypeId) (k : Nat) (ht : P.underlying t = some (.slice e)) (hsz : ∀ w, (sizeOf e).run P w = .ok k w) (b o len c h : Nat) (h3 : h <= c) (w : World) :
  (Instr.slice t (.slice (some ⟨b, o, none⟩) len c) none (some (.int .i64 (h : Int))) (some (.int .i64 (h : Int)))).run P w = .ok (.slice (some ⟨b, o, none⟩) h h) w := by
 have e0 : (⟨b, o, none⟩ : Addr).add 0 = ⟨b, o, none⟩ := by rw [Addr.add_lit, Nat.add_zero]
 simp [Instr.slice, run_underlying ht, Instr.sliceBounds, run_sliceBound, h3, hsz, e0]
theorem dR {w : World} {l : Nat} {v u : Value} {t : TypeId} (h : w.heap[l]? = some (.cells #[v, u] t (0, 0))) : w.cell? ⟨l, 0, none⟩ = some v /\ w.cell? ⟨l, 1, none⟩ = some u := by
 simp [World.cell?, h]
theorem jm {W W' : World} {p1 p2 : Addr} {v1 v2 : Value} (h : W.cell? p1 = some v1 /\ W.cell? p2 = some v2) (hb : Below W.heap.size W W') : W'.cell? p1 = some v1 /\ W'.cell? p2 = some v2 :=
 ⟨(hb.cell (World.block_lt_of_cell? _ _ h.1)).trans h.1, (hb.cell (World.block_lt_of_cell? _ _ h.2)).trans h.2⟩
theorem cG {W W' : World} {F : Nat -> Nat -> Prop} {b1 q1 b2 q2 : Nat} {v1 v2 : Value} (h : W.cell? ⟨b1, q1, none⟩ = some v1 /\ W.cell? ⟨b2, q2, none⟩ = some v2) (ho : OnlyC F W W') (h1 : ¬ F b1 q1) (h2 : ¬ F b2 q2) : W'.cell? ⟨b1, q1, none⟩ = some v1 /\ W'.cell? ⟨b2, q2, none⟩ = some v2 :=
 ⟨ho.cell h.1 h1, ho.cell h.2 h2⟩
theorem nt {d i o m : Nat} {x k : ND} {p0 : Pr} (hk : x.ks[i]? = some k) (hd0 : d = 0 -> k.ks = []) (hp0 : k.ps[m]? = some p0) (hm : o = m + 1) : jS d x i o = .mk (x.ps.take i ++ p0 :: x.ps.drop i) (x.ks.take i ++ (iq d k o).1 :: (iq d k o).2.2 :: x.ks.drop (i + 1)) := by
 have e : (iq d k o).2.1 = p0 := by
  rw [Be hd0]
  simp only
  rw [hm, Nat.add_sub_cancel, hp0]
  rfl
 unfold jS
 rw [hk]
 simp only [Option.getD_some, e]
theorem cL (l : List Pr) : ∀ u ∈ (l.map ah).flatten, u.oneCell' = true := by
 intro u hu
 obtain ⟨x, hx, hu⟩ := List.mem_flatten.1 hu
 obtain ⟨c, _, rfl⟩ := List.mem_map.1 hx
 simp [ah] at hu
 rcases hu with rfl | rfl <;> rfl
theorem bA (l : List Nat) : ∀ u ∈ (l.map aD).flatten, u.oneCell' = true := by
 intro u hu
 obtain ⟨x, hx, hu⟩ := List.mem_flatten.1 hu
 obtain ⟨c, _, rfl⟩ := List.mem_map.1 hx
 simp [aD] at hu
 rcases hu with rfl
 rfl
theorem dm {α β : Type} (f : α -> β) (l : List α) (i : Nat) (x : α) : (l.map f).take i ++ f x :: (l.map f).drop i = (l.take i ++ x :: l.drop i).map f := by simp
def mN (d a i o : Nat) (x : ND) (F : Nat -> Nat -> Prop) (w : World) (e : Ending) (w' : World) : Prop :=
 e = .returned (.tuple #[]) /\ ai w' (d + 1) a (jS d x i o) (fun b q => F b q \/ w.heap.size <= b) /\ OnlyC F w w'
set_option maxHeartbeats 4000000 in
theorem zb (w : World) (d a i o m l n1 c1 b1 o1 np cp bk ok ck nk : Nat) (A : Option Addr) (x k : ND) (F : Nat -> Nat -> Prop) (I1 GW : Value) (ak gI : List Nat) (H H1 : Nat -> Nat -> Nat -> Prop) (LI : Option Addr) (c2 : Nat)
  (hO : aN w (ai w d) a x F (.slice A np cp) (.slice (some ⟨bk, ok, none⟩) nk ck) ak H) (hF : ∀ b q, F b q -> b < w.heap.size) (hk : x.ks[i]? = some k) (hl : ak[i]? = some l) (EA : i <= x.ps.length)
  (hK : aN w (bu w d) l k (H (i + 3)) I1 GW gI H1) (hT : ∀ i b q, H1 i b q -> i < k.ks.length + 3) (hd0 : d = 0 -> k.ks = [])
  (hkn : k.ps.length = 2 * o) (ho : 2 <= o) (fq : o <= 16) (hm : o = m + 1) (kM : x.ps.length = np) (jn : ak.length = nk) (xB : nk <= 1000) (J7 : np <= 1000)
  (hvp : I1 = .slice (some ⟨b1, o1, none⟩) n1 c1) (qD : n1 = 2 * o) (hc1 : n1 <= c1) (hcm : c1 <= maxLen) (hvk : GW = .slice LI 0 c2)
  (r2 : w.cell? ⟨bk, ok + i, none⟩ = some (.pointer (some ⟨l, 0, none⟩))) (p0 : Pr) (hp0 : k.ps[m]? = some p0) (r4 : w.cell? ⟨b1, o1 + m * 2, none⟩ = some (.string ⟨p0.1.toArray⟩)) (r5 : w.cell? ⟨b1, o1 + m * 2 + 1, none⟩ = some (.string ⟨p0.2.toArray⟩))
  (A1 B1 A2 B2 : Nat -> Nat -> Prop) (p1 : aj 2 210 w (.slice (some ⟨b1, o1, none⟩) m m) ((k.ps.take (o - 1)).map ah) (fun b q => H1 1 b q /\ A1 b q)) (p2 : aj 2 210 w (.slice (some ⟨b1, o1 + o * 2, none⟩) (n1 - o) (n1 - o)) ((k.ps.drop o).map ah) (fun b q => H1 1 b q /\ B1 b q))
  (q1 : aj 1 197 w (.slice LI 0 c2) ((gI.take o).map aD) (fun b q => H1 2 b q /\ A2 b q)) (q2 : aj 1 197 w (.slice none 0 0) ((gI.drop o).map aD) (fun b q => H1 2 b q /\ B2 b q))
  (e1 : ∀ b q, A1 b q -> ¬ B1 b q) (e2 : ∀ b q, A2 b q -> ¬ B2 b q) :
  Calls Tryz.prog 94 #[.pointer (some ⟨a, 0, none⟩), .int .i64 i, .int .i64 o] w (mN d a i o x F w) := by
 subst hvp hvk
 have hal : a < w.heap.size := hF a 0 (hO.own.1 0 a 0 (hO.2.1 0))
 have hll : l < w.heap.size := hF l 0 (hO.own.1 _ l 0 (hK.own.1 0 l 0 (hK.2.1 0)))
 have Ej : ¬ l = a := hO.own.2.2 (i + 3) l 0 (by omega) (hK.own.1 0 l 0 (hK.2.1 0))
 have EB : i < nk := by have := (List.getElem?_eq_some_iff.1 hl).1; omega
 have cu := Lib.hid (And.intro hO (And.intro hF (And.intro hk (And.intro hl (And.intro hK (And.intro hT (And.intro hd0 (And.intro p1 (And.intro p2 (And.intro q1 (And.intro q2 (And.intro e1 e2))))))))))))
 have HN := Lib.hid (And.intro hkn (And.intro hm (And.intro hp0 (And.intro kM (And.intro jn (And.intro EA hal))))))
 have HL := Lib.hid (And.intro hO.1 (And.intro hK.1 hll))
 obtain ⟨⟨-, r1⟩, -, -⟩ := af hO.1
 obtain ⟨⟨z0, z1⟩, -, -⟩ := af hK.1
 have m1 : (o : Int) - 1 = (m : Int) := by omega
 have i1 : (0 : Int) <= (i : Int) := by omega
 have i2 : (i : Int) < (nk : Int) := by omega
 have i3 : (0 : Int) <= (m : Int) := by omega
 have i4 : (m : Int) < (n1 : Int) := by omega
 have i5 : (o : Int) <= (n1 : Int) := by omega
 have i6 : (n1 : Int) <= (c1 : Int) := by omega
 have i7 : (0 : Int) <= (o : Int) := by omega
 have i8 : (m : Int) <= (c1 : Int) := by omega
 have j1 : c1 <= maxLen := hcm
 have UH := oD (P := Tryz.prog) 198 210 2 Tryz.underlying198 (fun _ => by kernel_rfl) b1 o1 n1 c1 o n1 n1 (by omega) (Nat.le_refl _) hc1 (by omega)
 have UI := oF (P := Tryz.prog) 198 210 2 Tryz.underlying198 (fun _ => by kernel_rfl) b1 o1 n1 c1 m (by omega)
 have HE := Lib.hid (And.intro qD (And.intro ho J7))
 clear hO hF hk hl hK hT hd0 hkn hp0 p1 p2 q1 q2 e1 e2 EA kM jn hal hll qD hm ho
 go_enter Tryz.func94, Tryz.ntmps94
 go_upto_region 2 with fail
 have bT := ag w (.cells #[.string ⟨p0.1.toArray⟩, .string ⟨p0.2.toArray⟩] 210)
 have kT := heap_alloc_new w (.cells #[.string ⟨p0.1.toArray⟩, .string ⟨p0.2.toArray⟩] 210)
 generalize w.alloc (.cells #[.string ⟨p0.1.toArray⟩, .string ⟨p0.2.toArray⟩] 210) = w1 at bT kT ⊢
 obtain ⟨T, hTe⟩ : ∃ y, w.heap.size = y := ⟨_, rfl⟩
 rw [hTe] at kT ⊢
 have l1 := (Only.of_below bT (fun _ => False)).heap HL.out.2.1 (fun h => h)
 clear z0 z1 r1 r2 r4 r5
 obtain ⟨⟨z0, z1⟩, -, -⟩ := af l1
 have H1 := Lib.hid (And.intro bT (And.intro kT (And.intro hTe l1)))
 clear bT kT hTe l1
 go_upto_region 4 with fail
 have bR := ag w1 (.cells #[(.slice (some ⟨b1, o1 + o * 2, none⟩) (n1 - o) (n1 - o)), .slice none 0 0] 201)
 have kR := heap_alloc_new w1 (.cells #[(.slice (some ⟨b1, o1 + o * 2, none⟩) (n1 - o) (n1 - o)), .slice none 0 0] 201)
 generalize w1.alloc (.cells #[(.slice (some ⟨b1, o1 + o * 2, none⟩) (n1 - o) (n1 - o)), .slice none 0 0] 201) = w2 at bR kR ⊢
 obtain ⟨R, hR⟩ : ∃ y, w1.heap.size = y := ⟨_, rfl⟩
 rw [hR] at kR ⊢
 have MA : w.heap.size < R /\ T = w.heap.size /\ T < R := by have := lt_of_heap H1.out.2.1; have := H1.out.2.2.1; omega
 have l2 := (Only.of_below bR (fun _ => False)).heap H1.out.2.2.2 (fun h => h)
 have t2 := (Only.of_below bR (fun _ => False)).heap H1.out.2.1 (fun h => h)
 have MB := H1.out.1.trans (bR.mono H1.out.1.size)
 clear z0 z1
 obtain ⟨⟨z0, z1⟩, zf, -⟩ := af l2
 have H2 := Lib.hid (And.intro MB (And.intro kR (And.intro MA (And.intro l2 t2))))
 clear bR kR hR MA l2 t2 MB H1
 go_upto_region 5 with fail
 have MC : ¬ T = l := by have := H2.out.2.2.1; have := HL.out.2.2; omega
 have I5 : ¬ R = l := by have := H2.out.2.2.1; have := HL.out.2.2; omega
 have l3 := gB H2.out.2.2.2.1 (.slice (some ⟨b1, o1, none⟩) m m)
 have o3 := OnlyC.aT w2 l 0 (.slice (some ⟨b1, o1, none⟩) m m)
 have k3 := o3.heap H2.out.2.1 (fun q e => I5 e.1)
 have t3 := o3.heap H2.out.2.2.2.2 (fun q e => MC e.1)
 have c3 : OnlyC (fun b _ => b = l) w (w2.setCell ⟨l, 0, none⟩ (.slice (some ⟨b1, o1, none⟩) m m)) := (OnlyC.of_below H2.out.1 (fun b _ => b = l)).trans o3 (fun b q _ e => e.1)
 generalize w2.setCell ⟨l, 0, none⟩ (.slice (some ⟨b1, o1, none⟩) m m) = w3 at l3 k3 t3 c3 ⊢
 clear z0 z1 zf o3
 obtain ⟨⟨z0, z1⟩, PY, zf⟩ := af l3
 clear PY
 have H3 := Lib.hid (And.intro c3 (And.intro l3 (And.intro k3 (And.intro t3 H2.out.2.2.1))))
 clear l3 k3 t3 c3 H2 MC
 have gV := Lib.hid (cP w3 l c2 LI z1)
 go_wp2_with fail
 refine gV.out.mono ?_
 rintro e w4 ⟨rfl, rfl⟩
 clear gV z0 z1 zf
 go_upto_region 8 with fail
 have hgt := H3.out.2.2.2.2
 have DC : ∀ j q b, H j b q -> b < w.heap.size := fun j q b hh => cu.out.2.1 b q (cu.out.1.own.1 j b q hh)
 have nu : ∀ j q, ¬ H j T q := fun j q hh => by have := DC j q T hh; omega
 have J8 : ∀ j b q, j ≠ i + 3 -> H j b q -> ¬ b = l := fun j b q hj hh e => cu.out.1.own.2.1 j (i + 3) b q hj hh (e ▸ cu.out.2.2.2.2.1.own.1 0 l q (cu.out.2.2.2.2.1.2.1 q))
 have ka := H3.out.1.heap HL.out.1 (fun q e => Ej e.symm)
 have MD := (cu.out.1.2.2.1).only H3.out.1 (fun b q hh => J8 1 b q (by omega) hh)
 have ME := (cu.out.1.2.2.2.1).only H3.out.1 (fun b q hh => J8 2 b q (by omega) hh)
 have HA := Lib.hid (And.intro ka (And.intro MD ME))
 have HX := Lib.hid (And.intro nu (And.intro DC hgt))
 have tS := dR H3.out.2.2.2.1
 clear hgt DC nu J8 ka MD ME
 refine wp_region_held_drew (S := (fun W => W.cell? ⟨T, 0, none⟩ = some (.string ⟨p0.1.toArray⟩) /\ W.cell? ⟨T, 1, none⟩ = some (.string ⟨p0.2.toArray⟩))) (by kernel_rfl) tS (fun hHeld => ?_)
 generalize hW3 : World.drew w3 = W3 at hHeld ⊢
 have HB := Lib.hid (show Below w3.heap.size w3 W3 from hW3 ▸ (Below.refl _ _).drew)
 clear hW3 tS
 refine aO [0, 1, 2, 3, 5, 6] ?_
 iterate 6 (refine cI (v := ?_) (fun wS hSw => ?_) hHeld ?_; rotate_left; (obtain ⟨s0, s1⟩ := hSw; go_simp; try with_reducible rfl); try simp only [av, ax, ay, az])
 refine aP ?_
 refine wpAnyH_ready (rs := [4, 7]) (by kernel_rfl) (by simp) (cy (i := 4) rfl (fun K hK => ?_) (cy (i := 7) rfl (fun K hK => ?_) AllReadyH.nil))
 ·skip
  obtain ⟨⟨r6, -⟩, -, -⟩ := af ((Only.of_below HB.out (fun _ => False)).heap HA.out.1 (fun h => h))
  go_simp
  refine hK.out _ _ (hHeld) (fun ae => ?_)
  clear hK K hHeld r6
  have hHeld := ae
  clear ae
  try simp only [av, ax, ay, az]
  refine bg 7 (fun K hK => ?_)
  go_simp
  refine hK.out _ _ (jm hHeld (ag _ _)) (fun ae => ?_)
  clear hK K hHeld 
  have hHeld := ae
  clear ae
  try simp only [av, ax, ay, az]
  have kV := heap_alloc_new W3 (.cells #[.string ⟨p0.1.toArray⟩, .string ⟨p0.2.toArray⟩] 210)
  have bV := ag W3 (.cells #[.string ⟨p0.1.toArray⟩, .string ⟨p0.2.toArray⟩] 210)
  generalize W3.alloc (.cells #[.string ⟨p0.1.toArray⟩, .string ⟨p0.2.toArray⟩] 210) = W5 at kV bV hHeld ⊢
  obtain ⟨VB, fD⟩ : ∃ y, W3.heap.size = y := ⟨_, rfl⟩
  rw [fD] at kV ⊢
  have HV := Lib.hid (And.intro kV (show w.heap.size < VB by have h1 := HB.out.size; have h2 := lt_of_heap H3.out.2.2.1; have h3 := H3.out.2.2.2.2; omega))
  have HB := Lib.hid (HB.out.trans (bV.mono HB.out.size))
  clear kV bV fD
  refine bg 8 (fun K hK => ?_)
  go_simp
  refine (gG W5 (H 1) _ (x.ps.map ah) i _ rfl (ah p0) VB (HA.out.2.1.only (OnlyC.of_below HB.out (fun _ _ => False)) (fun _ _ _ h => h)) (by rw [List.length_map]; exact HN.out.2.2.2.2.2.1) (by rw [List.length_map, HN.out.2.2.2.1]; exact HE.out.2.2) (by rfl) (by simp [ah, Value.oneCell']) (cL _) HV.out.1 (fun q hh => by have := HX.out.2.1 1 q VB hh; have := HV.out.2; omega)).mono ?_
  rintro e wn ⟨v6, rfl, bw, dM⟩
  rw [dm] at bw
  obtain ⟨A6, c6, eD, -⟩ := bw.slice
  obtain ⟨n6, ed⟩ : ∃ y, ((x.ps.take i ++ p0 :: x.ps.drop i).map ah).length = y := ⟨_, rfl⟩
  rw [ed] at eD
  subst eD
  clear ed
  have H6 := Lib.hid (And.intro bw dM)
  clear bw dM
  try go_simp
  refine hK.out _ _ (cG hHeld H6.out.2 (HX.out.1 1 0) (HX.out.1 1 1)) (fun ae => ?_)
  clear hK K hHeld 
  have hHeld := ae
  clear ae
  try simp only [av, ax, ay, az]
  refine aO [9, 10] ?_
  iterate 2 (refine cI (v := ?_) (fun wS hSw => ?_) hHeld ?_; rotate_left; (obtain ⟨s0, s1⟩ := hSw; go_simp; try with_reducible rfl); try simp only [av, ax, ay, az])
  refine aP ?_
  refine bg 11 (fun K hK => ?_)
  obtain ⟨⟨r6, -⟩, rf, -⟩ := af (H6.out.2.heap ((Only.of_below HB.out (fun _ => False)).heap HA.out.1 (fun h => h)) (fun q hh => cu.out.1.own.2.1 1 0 a q (by decide) hh (cu.out.1.2.1 q)))
  go_simp
  refine hK.out _ _ (cG hHeld (OnlyC.aT _ a 0 _) (fun e => by have := e.1; have := HX.out.2.2; have := HN.out.2.2.2.2.2.2; omega) (fun e => by have := e.1; have := HX.out.2.2; have := HN.out.2.2.2.2.2.2; omega)) (fun ae => ?_)
  clear hK K hHeld r6 rf
  have hHeld := ae
  clear ae
  try simp only [av, ax, ay, az]
  refine wpAnyH_done (by kernel_rfl) ?_ _
  have k7 := gB (H6.out.2.heap ((Only.of_below HB.out (fun _ => False)).heap HA.out.1 (fun h => h)) (fun q hh => cu.out.1.own.2.1 1 0 a q (by decide) hh (cu.out.1.2.1 q))) (.slice A6 n6 c6)
  have s7 := ((HA.out.2.2.only (OnlyC.of_below HB.out (fun _ _ => False)) (fun _ _ _ h => h)).only H6.out.2 (fun b q hh Bo => cu.out.1.own.2.1 2 1 b q (by decide) hh Bo)).only (OnlyC.aT wn a 0 (.slice A6 n6 c6)) (fun b q hh e => cu.out.1.own.2.2 2 b q (by decide) hh e.1)
  have z7 : (wn.setCell ⟨a, 0, none⟩ (.slice A6 n6 c6)).heap.size = wn.heap.size := by simp [World.setCell]
  have W7 := Lib.hid (show ∃ u, u = wn.setCell ⟨a, 0, none⟩ (.slice A6 n6 c6) from ⟨_, rfl⟩)
  generalize h7 : wn.setCell ⟨a, 0, none⟩ (.slice A6 n6 c6) = w7 at k7 s7 z7 hHeld ⊢
  clear W7 hHeld
  obtain ⟨⟨-, y7⟩, -, -⟩ := af k7
  have H7 := Lib.hid (And.intro k7 (And.intro s7 (And.intro z7 h7)))
  clear k7 s7 z7 h7
  go_wp2_with fail
  have kN := heap_alloc_new w7 (.cells #[.pointer (some ⟨R, 0, none⟩)] 197)
  have bN := ag w7 (.cells #[.pointer (some ⟨R, 0, none⟩)] 197)
  generalize w7.alloc (.cells #[.pointer (some ⟨R, 0, none⟩)] 197) = w8 at kN bN ⊢
  obtain ⟨VN, ze⟩ : ∃ y, w7.heap.size = y := ⟨_, rfl⟩
  rw [ze] at kN ⊢
  have qL := Lib.hid (And.intro kN (And.intro ze bN))
  clear kN ze bN y7
  refine (gH w8 (H 2) _ (ak.map aD) (i + 1) _ (by simp) (aD R) VN (H7.out.2.1.only (OnlyC.of_below qL.out.2.2 (fun _ _ => False)) (fun _ _ _ h => h)) (by rw [List.length_map, HN.out.2.2.2.2.1]; exact EB) (by rw [List.length_map, HN.out.2.2.2.2.1]; exact xB) (by rfl) (by simp [aD, Value.oneCell']) (bA _) qL.out.1 (fun q hh => by have := HX.out.2.1 2 q VN hh; have h1 := qL.out.2.1; have h2 := H7.out.2.2.1; have h3 := H6.out.2.size; have h4 := HB.out.size; have h5 := lt_of_heap H3.out.2.2.1; have h6 := H3.out.2.2.2.2; omega)).mono ?_
  rintro e w9 ⟨v9, rfl, bM, dS⟩
  rw [dm] at bM
  obtain ⟨A9, c9, eW, -⟩ := bM.slice
  obtain ⟨n9, eX⟩ : ∃ y, ((ak.take (i + 1) ++ R :: ak.drop (i + 1)).map aD).length = y := ⟨_, rfl⟩
  rw [eX] at eW
  subst eW
  clear eX
  obtain ⟨⟨-, y9⟩, -, f9⟩ := af (dS.heap ((Only.of_below qL.out.2.2 (fun _ => False)).heap H7.out.1 (fun h => h)) (fun q hh => cu.out.1.own.2.1 2 0 a q (by decide) hh (cu.out.1.2.1 q)))
  have H9 := Lib.hid (And.intro bM dS)
  clear bM dS
  go_wp2_with fail
  first | refine bodyPost_end (results_none rfl _ _ _) rfl ?_ | refine bodyPost_ret (results_none rfl _ _ _) rfl ?_
  obtain ⟨a1, a2, a3, a4, a5, a6, a7, a8, a9, GX, J9, a12, Ka⟩ := cu.out
  unfold mN
  rw [nt a3 a7 HN.out.2.2.1 HN.out.2.1]
  have hend := lW (r := R) a1 a2 a3 a4 a5 a6 a7 H3.out.1 (Nat.le_of_lt H3.out.2.2.2.2.1) (lt_of_heap H3.out.2.2.1) H3.out.2.1 H3.out.2.2.1 a8 a9 GX J9 a12 Ka HB.out H6.out.2 H6.out.1 (by rw [H7.out.2.2.2]; exact qL.out.2.2.mono (Nat.le_of_eq H7.out.2.2.1.symm)) H9.out.2 H9.out.1
  exact ⟨rfl, hend⟩
 ·skip
  go_simp
  refine hK.out _ _ (jm hHeld (ag _ _)) (fun ae => ?_)
  clear hK K hHeld 
  have hHeld := ae
  clear ae
  try simp only [av, ax, ay, az]
  have kV := heap_alloc_new W3 (.cells #[.string ⟨p0.1.toArray⟩, .string ⟨p0.2.toArray⟩] 210)
  have bV := ag W3 (.cells #[.string ⟨p0.1.toArray⟩, .string ⟨p0.2.toArray⟩] 210)
  generalize W3.alloc (.cells #[.string ⟨p0.1.toArray⟩, .string ⟨p0.2.toArray⟩] 210) = W5 at kV bV hHeld ⊢
  obtain ⟨VB, fD⟩ : ∃ y, W3.heap.size = y := ⟨_, rfl⟩
  rw [fD] at kV ⊢
  have HV := Lib.hid (And.intro kV (show w.heap.size < VB by have h1 := HB.out.size; have h2 := lt_of_heap H3.out.2.2.1; have h3 := H3.out.2.2.2.2; omega))
  have HB := Lib.hid (HB.out.trans (bV.mono HB.out.size))
  clear kV bV fD
  refine bg 4 (fun K hK => ?_)
  obtain ⟨⟨r6, -⟩, -, -⟩ := af ((Only.of_below HB.out (fun _ => False)).heap HA.out.1 (fun h => h))
  go_simp
  refine hK.out _ _ (hHeld) (fun ae => ?_)
  clear hK K hHeld r6
  have hHeld := ae
  clear ae
  try simp only [av, ax, ay, az]
  refine bg 8 (fun K hK => ?_)
  go_simp
  refine (gG W5 (H 1) _ (x.ps.map ah) i _ rfl (ah p0) VB (HA.out.2.1.only (OnlyC.of_below HB.out (fun _ _ => False)) (fun _ _ _ h => h)) (by rw [List.length_map]; exact HN.out.2.2.2.2.2.1) (by rw [List.length_map, HN.out.2.2.2.1]; exact HE.out.2.2) (by rfl) (by simp [ah, Value.oneCell']) (cL _) HV.out.1 (fun q hh => by have := HX.out.2.1 1 q VB hh; have := HV.out.2; omega)).mono ?_
  rintro e wn ⟨v6, rfl, bw, dM⟩
  rw [dm] at bw
  obtain ⟨A6, c6, eD, -⟩ := bw.slice
  obtain ⟨n6, ed⟩ : ∃ y, ((x.ps.take i ++ p0 :: x.ps.drop i).map ah).length = y := ⟨_, rfl⟩
  rw [ed] at eD
  subst eD
  clear ed
  have H6 := Lib.hid (And.intro bw dM)
  clear bw dM
  try go_simp
  refine hK.out _ _ (cG hHeld H6.out.2 (HX.out.1 1 0) (HX.out.1 1 1)) (fun ae => ?_)
  clear hK K hHeld 
  have hHeld := ae
  clear ae
  try simp only [av, ax, ay, az]
  refine aO [9, 10] ?_
  iterate 2 (refine cI (v := ?_) (fun wS hSw => ?_) hHeld ?_; rotate_left; (obtain ⟨s0, s1⟩ := hSw; go_simp; try with_reducible rfl); try simp only [av, ax, ay, az])
  refine aP ?_
  refine bg 11 (fun K hK => ?_)
  obtain ⟨⟨r6, -⟩, rf, -⟩ := af (H6.out.2.heap ((Only.of_below HB.out (fun _ => False)).heap HA.out.1 (fun h => h)) (fun q hh => cu.out.1.own.2.1 1 0 a q (by decide) hh (cu.out.1.2.1 q)))
  go_simp
  refine hK.out _ _ (cG hHeld (OnlyC.aT _ a 0 _) (fun e => by have := e.1; have := HX.out.2.2; have := HN.out.2.2.2.2.2.2; omega) (fun e => by have := e.1; have := HX.out.2.2; have := HN.out.2.2.2.2.2.2; omega)) (fun ae => ?_)
  clear hK K hHeld r6 rf
  have hHeld := ae
  clear ae
  try simp only [av, ax, ay, az]
  refine wpAnyH_done (by kernel_rfl) ?_ _
  have k7 := gB (H6.out.2.heap ((Only.of_below HB.out (fun _ => False)).heap HA.out.1 (fun h => h)) (fun q hh => cu.out.1.own.2.1 1 0 a q (by decide) hh (cu.out.1.2.1 q))) (.slice A6 n6 c6)
  have s7 := ((HA.out.2.2.only (OnlyC.of_below HB.out (fun _ _ => False)) (fun _ _ _ h => h)).only H6.out.2 (fun b q hh Bo => cu.out.1.own.2.1 2 1 b q (by decide) hh Bo)).only (OnlyC.aT wn a 0 (.slice A6 n6 c6)) (fun b q hh e => cu.out.1.own.2.2 2 b q (by decide) hh e.1)
  have z7 : (wn.setCell ⟨a, 0, none⟩ (.slice A6 n6 c6)).heap.size = wn.heap.size := by simp [World.setCell]
  have W7 := Lib.hid (show ∃ u, u = wn.setCell ⟨a, 0, none⟩ (.slice A6 n6 c6) from ⟨_, rfl⟩)
  generalize h7 : wn.setCell ⟨a, 0, none⟩ (.slice A6 n6 c6) = w7 at k7 s7 z7 hHeld ⊢
  clear W7 hHeld
  obtain ⟨⟨-, y7⟩, -, -⟩ := af k7
  have H7 := Lib.hid (And.intro k7 (And.intro s7 (And.intro z7 h7)))
  clear k7 s7 z7 h7
  go_wp2_with fail
  have kN := heap_alloc_new w7 (.cells #[.pointer (some ⟨R, 0, none⟩)] 197)
  have bN := ag w7 (.cells #[.pointer (some ⟨R, 0, none⟩)] 197)
  generalize w7.alloc (.cells #[.pointer (some ⟨R, 0, none⟩)] 197) = w8 at kN bN ⊢
  obtain ⟨VN, ze⟩ : ∃ y, w7.heap.size = y := ⟨_, rfl⟩
  rw [ze] at kN ⊢
  have qL := Lib.hid (And.intro kN (And.intro ze bN))
  clear kN ze bN y7
  refine (gH w8 (H 2) _ (ak.map aD) (i + 1) _ (by simp) (aD R) VN (H7.out.2.1.only (OnlyC.of_below qL.out.2.2 (fun _ _ => False)) (fun _ _ _ h => h)) (by rw [List.length_map, HN.out.2.2.2.2.1]; exact EB) (by rw [List.length_map, HN.out.2.2.2.2.1]; exact xB) (by rfl) (by simp [aD, Value.oneCell']) (bA _) qL.out.1 (fun q hh => by have := HX.out.2.1 2 q VN hh; have h1 := qL.out.2.1; have h2 := H7.out.2.2.1; have h3 := H6.out.2.size; have h4 := HB.out.size; have h5 := lt_of_heap H3.out.2.2.1; have h6 := H3.out.2.2.2.2; omega)).mono ?_
  rintro e w9 ⟨v9, rfl, bM, dS⟩
  rw [dm] at bM
  obtain ⟨A9, c9, eW, -⟩ := bM.slice
  obtain ⟨n9, eX⟩ : ∃ y, ((ak.take (i + 1) ++ R :: ak.drop (i + 1)).map aD).length = y := ⟨_, rfl⟩
  rw [eX] at eW
  subst eW
  clear eX
  obtain ⟨⟨-, y9⟩, -, f9⟩ := af (dS.heap ((Only.of_below qL.out.2.2 (fun _ => False)).heap H7.out.1 (fun h => h)) (fun q hh => cu.out.1.own.2.1 2 0 a q (by decide) hh (cu.out.1.2.1 q)))
  have H9 := Lib.hid (And.intro bM dS)
  clear bM dS
  go_wp2_with fail
  first | refine bodyPost_end (results_none rfl _ _ _) rfl ?_ | refine bodyPost_ret (results_none rfl _ _ _) rfl ?_
  obtain ⟨a1, a2, a3, a4, a5, a6, a7, a8, a9, GX, J9, a12, Ka⟩ := cu.out
  unfold mN
  rw [nt a3 a7 HN.out.2.2.1 HN.out.2.1]
  have hend := lW (r := R) a1 a2 a3 a4 a5 a6 a7 H3.out.1 (Nat.le_of_lt H3.out.2.2.2.2.1) (lt_of_heap H3.out.2.2.1) H3.out.2.1 H3.out.2.2.1 a8 a9 GX J9 a12 Ka HB.out H6.out.2 H6.out.1 (by rw [H7.out.2.2.2]; exact qL.out.2.2.mono (Nat.le_of_eq H7.out.2.2.1.symm)) H9.out.2 H9.out.1
  exact ⟨rfl, hend⟩
set_option maxHeartbeats 4000000 in
theorem EC (w : World) (d a i o m l n1 c1 b1 o1 np cp bk ok ck nk : Nat) (A : Option Addr) (x k : ND) (F : Nat -> Nat -> Prop) (I1 GW : Value) (ak gI : List Nat) (H H1 : Nat -> Nat -> Nat -> Prop) (b2 o2 n2 c2 : Nat) (pM : n2 = 2 * o + 1) (hc2 : n2 <= c2) (_hcm2 : c2 <= maxLen)
  (hO : aN w (ai w d) a x F (.slice A np cp) (.slice (some ⟨bk, ok, none⟩) nk ck) ak H) (hF : ∀ b q, F b q -> b < w.heap.size) (hk : x.ks[i]? = some k) (hl : ak[i]? = some l) (EA : i <= x.ps.length)
  (hK : aN w (bu w d) l k (H (i + 3)) I1 GW gI H1) (hT : ∀ i b q, H1 i b q -> i < k.ks.length + 3) (hd0 : d = 0 -> k.ks = [])
  (hkn : k.ps.length = 2 * o) (ho : 2 <= o) (fq : o <= 16) (hm : o = m + 1) (kM : x.ps.length = np) (jn : ak.length = nk) (xB : nk <= 1000) (J7 : np <= 1000)
  (hvp : I1 = .slice (some ⟨b1, o1, none⟩) n1 c1) (qD : n1 = 2 * o) (hc1 : n1 <= c1) (hcm : c1 <= maxLen) (hvk : GW = .slice (some ⟨b2, o2, none⟩) n2 c2)
  (r2 : w.cell? ⟨bk, ok + i, none⟩ = some (.pointer (some ⟨l, 0, none⟩))) (p0 : Pr) (hp0 : k.ps[m]? = some p0) (r4 : w.cell? ⟨b1, o1 + m * 2, none⟩ = some (.string ⟨p0.1.toArray⟩)) (r5 : w.cell? ⟨b1, o1 + m * 2 + 1, none⟩ = some (.string ⟨p0.2.toArray⟩))
  (A1 B1 A2 B2 : Nat -> Nat -> Prop) (p1 : aj 2 210 w (.slice (some ⟨b1, o1, none⟩) m m) ((k.ps.take (o - 1)).map ah) (fun b q => H1 1 b q /\ A1 b q)) (p2 : aj 2 210 w (.slice (some ⟨b1, o1 + o * 2, none⟩) (n1 - o) (n1 - o)) ((k.ps.drop o).map ah) (fun b q => H1 1 b q /\ B1 b q))
  (q1 : aj 1 197 w (.slice (some ⟨b2, o2, none⟩) o o) ((gI.take o).map aD) (fun b q => H1 2 b q /\ A2 b q)) (q2 : aj 1 197 w (.slice (some ⟨b2, o2 + o, none⟩) (n2 - o) (n2 - o)) ((gI.drop o).map aD) (fun b q => H1 2 b q /\ B2 b q))
  (e1 : ∀ b q, A1 b q -> ¬ B1 b q) (e2 : ∀ b q, A2 b q -> ¬ B2 b q) :
  Calls Tryz.prog 94 #[.pointer (some ⟨a, 0, none⟩), .int .i64 i, .int .i64 o] w (mN d a i o x F w) := by
 subst hvp hvk
 have hal : a < w.heap.size := hF a 0 (hO.own.1 0 a 0 (hO.2.1 0))
 have hll : l < w.heap.size := hF l 0 (hO.own.1 _ l 0 (hK.own.1 0 l 0 (hK.2.1 0)))
 have Ej : ¬ l = a := hO.own.2.2 (i + 3) l 0 (by omega) (hK.own.1 0 l 0 (hK.2.1 0))
 have EB : i < nk := by have := (List.getElem?_eq_some_iff.1 hl).1; omega
 have cu := Lib.hid (And.intro hO (And.intro hF (And.intro hk (And.intro hl (And.intro hK (And.intro hT (And.intro hd0 (And.intro p1 (And.intro p2 (And.intro q1 (And.intro q2 (And.intro e1 e2))))))))))))
 have HN := Lib.hid (And.intro hkn (And.intro hm (And.intro hp0 (And.intro kM (And.intro jn (And.intro EA hal))))))
 have HL := Lib.hid (And.intro hO.1 (And.intro hK.1 hll))
 obtain ⟨⟨-, r1⟩, -, -⟩ := af hO.1
 obtain ⟨⟨z0, z1⟩, -, -⟩ := af hK.1
 have m1 : (o : Int) - 1 = (m : Int) := by omega
 have i1 : (0 : Int) <= (i : Int) := by omega
 have i2 : (i : Int) < (nk : Int) := by omega
 have i3 : (0 : Int) <= (m : Int) := by omega
 have i4 : (m : Int) < (n1 : Int) := by omega
 have i5 : (o : Int) <= (n1 : Int) := by omega
 have i6 : (n1 : Int) <= (c1 : Int) := by omega
 have i7 : (0 : Int) <= (o : Int) := by omega
 have i8 : (m : Int) <= (c1 : Int) := by omega
 have j1 : c1 <= maxLen := hcm
 have UH := oD (P := Tryz.prog) 198 210 2 Tryz.underlying198 (fun _ => by kernel_rfl) b1 o1 n1 c1 o n1 n1 (by omega) (Nat.le_refl _) hc1 (by omega)
 have UI := oF (P := Tryz.prog) 198 210 2 Tryz.underlying198 (fun _ => by kernel_rfl) b1 o1 n1 c1 m (by omega)
 have Wf : ∀ w, (Instr.slice 199 (.slice (some ⟨b2, o2, none⟩) n2 c2) (some (.int .i64 (o : Int))) (some (.int .i64 (n2 : Int))) (some (.int .i64 (n2 : Int)))).run Tryz.prog w = .ok (.slice (some ⟨b2, o2 + o, none⟩) (n2 - o) (n2 - o)) w := fun w => by
  have := oD (P := Tryz.prog) 199 197 1 Tryz.underlying199 (fun _ => by kernel_rfl) b2 o2 n2 c2 o n2 n2 (by omega) (Nat.le_refl _) hc2 (by omega) w
  simpa using this
 have Wh := oF (P := Tryz.prog) 199 197 1 Tryz.underlying199 (fun _ => by kernel_rfl) b2 o2 n2 c2 o (by omega)
 have m2 : (n1 : Int) + 1 = (n2 : Int) := by omega
 have m3 : wrap64 (n2 : Int) = (n2 : Int) := by first | go_num | (unfold wrap64; omega)
 have UJ : 0 < n2 := by omega
 have HE := Lib.hid (And.intro qD (And.intro ho J7))
 clear hO hF hk hl hK hT hd0 hkn hp0 p1 p2 q1 q2 e1 e2 EA kM jn hal hll qD hm ho pM
 go_enter Tryz.func94, Tryz.ntmps94
 go_upto_region 2 with fail
 have bT := ag w (.cells #[.string ⟨p0.1.toArray⟩, .string ⟨p0.2.toArray⟩] 210)
 have kT := heap_alloc_new w (.cells #[.string ⟨p0.1.toArray⟩, .string ⟨p0.2.toArray⟩] 210)
 generalize w.alloc (.cells #[.string ⟨p0.1.toArray⟩, .string ⟨p0.2.toArray⟩] 210) = w1 at bT kT ⊢
 obtain ⟨T, hTe⟩ : ∃ y, w.heap.size = y := ⟨_, rfl⟩
 rw [hTe] at kT ⊢
 have l1 := (Only.of_below bT (fun _ => False)).heap HL.out.2.1 (fun h => h)
 clear z0 z1 r1 r2 r4 r5
 obtain ⟨⟨z0, z1⟩, -, -⟩ := af l1
 have H1 := Lib.hid (And.intro bT (And.intro kT (And.intro hTe l1)))
 clear bT kT hTe l1
 go_upto_region 4 with fail
 have bR := ag w1 (.cells #[(.slice (some ⟨b1, o1 + o * 2, none⟩) (n1 - o) (n1 - o)), .slice none 0 0] 201)
 have kR := heap_alloc_new w1 (.cells #[(.slice (some ⟨b1, o1 + o * 2, none⟩) (n1 - o) (n1 - o)), .slice none 0 0] 201)
 generalize w1.alloc (.cells #[(.slice (some ⟨b1, o1 + o * 2, none⟩) (n1 - o) (n1 - o)), .slice none 0 0] 201) = w2 at bR kR ⊢
 obtain ⟨R, hR⟩ : ∃ y, w1.heap.size = y := ⟨_, rfl⟩
 rw [hR] at kR ⊢
 have MA : w.heap.size < R /\ T = w.heap.size /\ T < R := by have := lt_of_heap H1.out.2.1; have := H1.out.2.2.1; omega
 have l2 := (Only.of_below bR (fun _ => False)).heap H1.out.2.2.2 (fun h => h)
 have t2 := (Only.of_below bR (fun _ => False)).heap H1.out.2.1 (fun h => h)
 have MB := H1.out.1.trans (bR.mono H1.out.1.size)
 clear z0 z1
 obtain ⟨⟨z0, z1⟩, zf, -⟩ := af l2
 have H2 := Lib.hid (And.intro MB (And.intro kR (And.intro MA (And.intro l2 t2))))
 clear bR kR hR MA l2 t2 MB H1
 go_upto_region 5 with fail
 have MC : ¬ T = l := by have := H2.out.2.2.1; have := HL.out.2.2; omega
 have I5 : ¬ R = l := by have := H2.out.2.2.1; have := HL.out.2.2; omega
 have l3 := gB H2.out.2.2.2.1 (.slice (some ⟨b1, o1, none⟩) m m)
 have o3 := OnlyC.aT w2 l 0 (.slice (some ⟨b1, o1, none⟩) m m)
 have k3 := o3.heap H2.out.2.1 (fun q e => I5 e.1)
 have t3 := o3.heap H2.out.2.2.2.2 (fun q e => MC e.1)
 have c3 : OnlyC (fun b _ => b = l) w (w2.setCell ⟨l, 0, none⟩ (.slice (some ⟨b1, o1, none⟩) m m)) := (OnlyC.of_below H2.out.1 (fun b _ => b = l)).trans o3 (fun b q _ e => e.1)
 generalize w2.setCell ⟨l, 0, none⟩ (.slice (some ⟨b1, o1, none⟩) m m) = w3 at l3 k3 t3 c3 ⊢
 clear z0 z1 zf o3
 obtain ⟨⟨z0, z1⟩, PY, zf⟩ := af l3
 clear PY
 have H3 := Lib.hid (And.intro c3 (And.intro l3 (And.intro k3 (And.intro t3 H2.out.2.2.1))))
 clear l3 k3 t3 c3 H2 MC
 have gV := Lib.hid (dQ w3 l n2 c2 _ (by omega) z1)
 obtain ⟨⟨-, y1⟩, -, yf⟩ := af H3.out.2.2.1
 go_wp2_with fail
 refine gV.out.mono ?_
 rintro e w4 ⟨rfl, rfl⟩
 clear gV
 go_upto_region 7 with fail
 have l4 := (OnlyC.aT w3 R 1 (.slice (some ⟨b2, o2 + o, none⟩) (n2 - o) (n2 - o))).heap H3.out.2.1 (fun q e => I5 e.1.symm)
 have k4 := Bn H3.out.2.2.1 (.slice (some ⟨b2, o2 + o, none⟩) (n2 - o) (n2 - o))
 have t4 := (OnlyC.aT w3 R 1 (.slice (some ⟨b2, o2 + o, none⟩) (n2 - o) (n2 - o))).heap H3.out.2.2.2.1 (fun q e => by have := e.1; have := H3.out.2.2.2.2; omega)
 have c4 := H3.out.1.setCell (b := R) (o := 1) (fun hb => by have := H3.out.2.2.2.2; omega) (.slice (some ⟨b2, o2 + o, none⟩) (n2 - o) (n2 - o))
 generalize w3.setCell ⟨R, 1, none⟩ (.slice (some ⟨b2, o2 + o, none⟩) (n2 - o) (n2 - o)) = w4 at l4 k4 t4 c4 ⊢
 clear z0 z1 zf y1 yf
 obtain ⟨⟨z0, z1⟩, -, zf⟩ := af l4
 have H4 := Lib.hid (And.intro c4 (And.intro l4 (And.intro k4 (And.intro t4 H3.out.2.2.2.2))))
 clear l4 k4 t4 c4 H3
 go_upto_region 8 with fail
 have l5 := Bn H4.out.2.1 (.slice (some ⟨b2, o2, none⟩) o o)
 have k5 := (OnlyC.aT w4 l 1 (.slice (some ⟨b2, o2, none⟩) o o)).heap H4.out.2.2.1 (fun q e => I5 e.1)
 have t5 := (OnlyC.aT w4 l 1 (.slice (some ⟨b2, o2, none⟩) o o)).heap H4.out.2.2.2.1 (fun q e => by have := e.1; have := H4.out.2.2.2.2; have := HL.out.2.2; omega)
 have c5 : OnlyC (fun b _ => b = l) w (w4.setCell ⟨l, 1, none⟩ (.slice (some ⟨b2, o2, none⟩) o o)) := H4.out.1.setCell (b := l) (o := 1) (fun _ => rfl) (.slice (some ⟨b2, o2, none⟩) o o)
 generalize w4.setCell ⟨l, 1, none⟩ (.slice (some ⟨b2, o2, none⟩) o o) = PZ at l5 k5 t5 c5 ⊢
 have H5 := Lib.hid (And.intro c5 (And.intro l5 (And.intro k5 (And.intro t5 H4.out.2.2.2.2))))
 clear l5 k5 t5 c5 H4 z0 z1 zf
 have hgt := H5.out.2.2.2.2
 have DC : ∀ j q b, H j b q -> b < w.heap.size := fun j q b hh => cu.out.2.1 b q (cu.out.1.own.1 j b q hh)
 have nu : ∀ j q, ¬ H j T q := fun j q hh => by have := DC j q T hh; omega
 have J8 : ∀ j b q, j ≠ i + 3 -> H j b q -> ¬ b = l := fun j b q hj hh e => cu.out.1.own.2.1 j (i + 3) b q hj hh (e ▸ cu.out.2.2.2.2.1.own.1 0 l q (cu.out.2.2.2.2.1.2.1 q))
 have ka := H5.out.1.heap HL.out.1 (fun q e => Ej e.symm)
 have MD := (cu.out.1.2.2.1).only H5.out.1 (fun b q hh => J8 1 b q (by omega) hh)
 have ME := (cu.out.1.2.2.2.1).only H5.out.1 (fun b q hh => J8 2 b q (by omega) hh)
 have HA := Lib.hid (And.intro ka (And.intro MD ME))
 have HX := Lib.hid (And.intro nu (And.intro DC hgt))
 have tS := dR H5.out.2.2.2.1
 clear hgt DC nu J8 ka MD ME
 refine wp_region_held_drew (S := (fun W => W.cell? ⟨T, 0, none⟩ = some (.string ⟨p0.1.toArray⟩) /\ W.cell? ⟨T, 1, none⟩ = some (.string ⟨p0.2.toArray⟩))) (by kernel_rfl) tS (fun hHeld => ?_)
 generalize hW3 : World.drew PZ = W3 at hHeld ⊢
 have HB := Lib.hid (show Below PZ.heap.size PZ W3 from hW3 ▸ (Below.refl _ _).drew)
 clear hW3 tS
 refine aO [0, 1, 2, 3, 5, 6] ?_
 iterate 6 (refine cI (v := ?_) (fun wS hSw => ?_) hHeld ?_; rotate_left; (obtain ⟨s0, s1⟩ := hSw; go_simp; try with_reducible rfl); try simp only [av, ax, ay, az])
 refine aP ?_
 refine wpAnyH_ready (rs := [4, 7]) (by kernel_rfl) (by simp) (cy (i := 4) rfl (fun K hK => ?_) (cy (i := 7) rfl (fun K hK => ?_) AllReadyH.nil))
 ·skip
  obtain ⟨⟨r6, -⟩, -, -⟩ := af ((Only.of_below HB.out (fun _ => False)).heap HA.out.1 (fun h => h))
  go_simp
  refine hK.out _ _ (hHeld) (fun ae => ?_)
  clear hK K hHeld r6
  have hHeld := ae
  clear ae
  try simp only [av, ax, ay, az]
  refine bg 7 (fun K hK => ?_)
  go_simp
  refine hK.out _ _ (jm hHeld (ag _ _)) (fun ae => ?_)
  clear hK K hHeld 
  have hHeld := ae
  clear ae
  try simp only [av, ax, ay, az]
  have kV := heap_alloc_new W3 (.cells #[.string ⟨p0.1.toArray⟩, .string ⟨p0.2.toArray⟩] 210)
  have bV := ag W3 (.cells #[.string ⟨p0.1.toArray⟩, .string ⟨p0.2.toArray⟩] 210)
  generalize W3.alloc (.cells #[.string ⟨p0.1.toArray⟩, .string ⟨p0.2.toArray⟩] 210) = W5 at kV bV hHeld ⊢
  obtain ⟨VB, fD⟩ : ∃ y, W3.heap.size = y := ⟨_, rfl⟩
  rw [fD] at kV ⊢
  have HV := Lib.hid (And.intro kV (show w.heap.size < VB by have h1 := HB.out.size; have h2 := lt_of_heap H5.out.2.2.1; have h3 := H5.out.2.2.2.2; omega))
  have HB := Lib.hid (HB.out.trans (bV.mono HB.out.size))
  clear kV bV fD
  refine bg 8 (fun K hK => ?_)
  go_simp
  refine (gG W5 (H 1) _ (x.ps.map ah) i _ rfl (ah p0) VB (HA.out.2.1.only (OnlyC.of_below HB.out (fun _ _ => False)) (fun _ _ _ h => h)) (by rw [List.length_map]; exact HN.out.2.2.2.2.2.1) (by rw [List.length_map, HN.out.2.2.2.1]; exact HE.out.2.2) (by rfl) (by simp [ah, Value.oneCell']) (cL _) HV.out.1 (fun q hh => by have := HX.out.2.1 1 q VB hh; have := HV.out.2; omega)).mono ?_
  rintro e wn ⟨v6, rfl, bw, dM⟩
  rw [dm] at bw
  obtain ⟨A6, c6, eD, -⟩ := bw.slice
  obtain ⟨n6, ed⟩ : ∃ y, ((x.ps.take i ++ p0 :: x.ps.drop i).map ah).length = y := ⟨_, rfl⟩
  rw [ed] at eD
  subst eD
  clear ed
  have H6 := Lib.hid (And.intro bw dM)
  clear bw dM
  try go_simp
  refine hK.out _ _ (cG hHeld H6.out.2 (HX.out.1 1 0) (HX.out.1 1 1)) (fun ae => ?_)
  clear hK K hHeld 
  have hHeld := ae
  clear ae
  try simp only [av, ax, ay, az]
  refine aO [9, 10] ?_
  iterate 2 (refine cI (v := ?_) (fun wS hSw => ?_) hHeld ?_; rotate_left; (obtain ⟨s0, s1⟩ := hSw; go_simp; try with_reducible rfl); try simp only [av, ax, ay, az])
  refine aP ?_
  refine bg 11 (fun K hK => ?_)
  obtain ⟨⟨r6, -⟩, rf, -⟩ := af (H6.out.2.heap ((Only.of_below HB.out (fun _ => False)).heap HA.out.1 (fun h => h)) (fun q hh => cu.out.1.own.2.1 1 0 a q (by decide) hh (cu.out.1.2.1 q)))
  go_simp
  refine hK.out _ _ (cG hHeld (OnlyC.aT _ a 0 _) (fun e => by have := e.1; have := HX.out.2.2; have := HN.out.2.2.2.2.2.2; omega) (fun e => by have := e.1; have := HX.out.2.2; have := HN.out.2.2.2.2.2.2; omega)) (fun ae => ?_)
  clear hK K hHeld r6 rf
  have hHeld := ae
  clear ae
  try simp only [av, ax, ay, az]
  refine wpAnyH_done (by kernel_rfl) ?_ _
  have k7 := gB (H6.out.2.heap ((Only.of_below HB.out (fun _ => False)).heap HA.out.1 (fun h => h)) (fun q hh => cu.out.1.own.2.1 1 0 a q (by decide) hh (cu.out.1.2.1 q))) (.slice A6 n6 c6)
  have s7 := ((HA.out.2.2.only (OnlyC.of_below HB.out (fun _ _ => False)) (fun _ _ _ h => h)).only H6.out.2 (fun b q hh Bo => cu.out.1.own.2.1 2 1 b q (by decide) hh Bo)).only (OnlyC.aT wn a 0 (.slice A6 n6 c6)) (fun b q hh e => cu.out.1.own.2.2 2 b q (by decide) hh e.1)
  have z7 : (wn.setCell ⟨a, 0, none⟩ (.slice A6 n6 c6)).heap.size = wn.heap.size := by simp [World.setCell]
  have W7 := Lib.hid (show ∃ u, u = wn.setCell ⟨a, 0, none⟩ (.slice A6 n6 c6) from ⟨_, rfl⟩)
  generalize h7 : wn.setCell ⟨a, 0, none⟩ (.slice A6 n6 c6) = w7 at k7 s7 z7 hHeld ⊢
  clear W7 hHeld
  obtain ⟨⟨-, y7⟩, -, -⟩ := af k7
  have H7 := Lib.hid (And.intro k7 (And.intro s7 (And.intro z7 h7)))
  clear k7 s7 z7 h7
  go_wp2_with fail
  have kN := heap_alloc_new w7 (.cells #[.pointer (some ⟨R, 0, none⟩)] 197)
  have bN := ag w7 (.cells #[.pointer (some ⟨R, 0, none⟩)] 197)
  generalize w7.alloc (.cells #[.pointer (some ⟨R, 0, none⟩)] 197) = w8 at kN bN ⊢
  obtain ⟨VN, ze⟩ : ∃ y, w7.heap.size = y := ⟨_, rfl⟩
  rw [ze] at kN ⊢
  have qL := Lib.hid (And.intro kN (And.intro ze bN))
  clear kN ze bN y7
  refine (gH w8 (H 2) _ (ak.map aD) (i + 1) _ (by simp) (aD R) VN (H7.out.2.1.only (OnlyC.of_below qL.out.2.2 (fun _ _ => False)) (fun _ _ _ h => h)) (by rw [List.length_map, HN.out.2.2.2.2.1]; exact EB) (by rw [List.length_map, HN.out.2.2.2.2.1]; exact xB) (by rfl) (by simp [aD, Value.oneCell']) (bA _) qL.out.1 (fun q hh => by have := HX.out.2.1 2 q VN hh; have h1 := qL.out.2.1; have h2 := H7.out.2.2.1; have h3 := H6.out.2.size; have h4 := HB.out.size; have h5 := lt_of_heap H5.out.2.2.1; have h6 := H5.out.2.2.2.2; omega)).mono ?_
  rintro e w9 ⟨v9, rfl, bM, dS⟩
  rw [dm] at bM
  obtain ⟨A9, c9, eW, -⟩ := bM.slice
  obtain ⟨n9, eX⟩ : ∃ y, ((ak.take (i + 1) ++ R :: ak.drop (i + 1)).map aD).length = y := ⟨_, rfl⟩
  rw [eX] at eW
  subst eW
  clear eX
  obtain ⟨⟨-, y9⟩, -, f9⟩ := af (dS.heap ((Only.of_below qL.out.2.2 (fun _ => False)).heap H7.out.1 (fun h => h)) (fun q hh => cu.out.1.own.2.1 2 0 a q (by decide) hh (cu.out.1.2.1 q)))
  have H9 := Lib.hid (And.intro bM dS)
  clear bM dS
  go_wp2_with fail
  first | refine bodyPost_end (results_none rfl _ _ _) rfl ?_ | refine bodyPost_ret (results_none rfl _ _ _) rfl ?_
  obtain ⟨a1, a2, a3, a4, a5, a6, a7, a8, a9, GX, J9, a12, Ka⟩ := cu.out
  unfold mN
  rw [nt a3 a7 HN.out.2.2.1 HN.out.2.1]
  have hend := lW (r := R) a1 a2 a3 a4 a5 a6 a7 H5.out.1 (Nat.le_of_lt H5.out.2.2.2.2.1) (lt_of_heap H5.out.2.2.1) H5.out.2.1 H5.out.2.2.1 a8 a9 GX J9 a12 Ka HB.out H6.out.2 H6.out.1 (by rw [H7.out.2.2.2]; exact qL.out.2.2.mono (Nat.le_of_eq H7.out.2.2.1.symm)) H9.out.2 H9.out.1
  exact ⟨rfl, hend⟩
 ·skip
  go_simp
  refine hK.out _ _ (jm hHeld (ag _ _)) (fun ae => ?_)
  clear hK K hHeld 
  have hHeld := ae
  clear ae
  try simp only [av, ax, ay, az]
  have kV := heap_alloc_new W3 (.cells #[.string ⟨p0.1.toArray⟩, .string ⟨p0.2.toArray⟩] 210)
  have bV := ag W3 (.cells #[.string ⟨p0.1.toArray⟩, .string ⟨p0.2.toArray⟩] 210)
  generalize W3.alloc (.cells #[.string ⟨p0.1.toArray⟩, .string ⟨p0.2.toArray⟩] 210) = W5 at kV bV hHeld ⊢
  obtain ⟨VB, fD⟩ : ∃ y, W3.heap.size = y := ⟨_, rfl⟩
  rw [fD] at kV ⊢
  have HV := Lib.hid (And.intro kV (show w.heap.size < VB by have h1 := HB.out.size; have h2 := lt_of_heap H5.out.2.2.1; have h3 := H5.out.2.2.2.2; omega))
  have HB := Lib.hid (HB.out.trans (bV.mono HB.out.size))
  clear kV bV fD
  refine bg 4 (fun K hK => ?_)
  obtain ⟨⟨r6, -⟩, -, -⟩ := af ((Only.of_below HB.out (fun _ => False)).heap HA.out.1 (fun h => h))
  go_simp
  refine hK.out _ _ (hHeld) (fun ae => ?_)
  clear hK K hHeld r6
  have hHeld := ae
  clear ae
  try simp only [av, ax, ay, az]
  refine bg 8 (fun K hK => ?_)
  go_simp
  refine (gG W5 (H 1) _ (x.ps.map ah) i _ rfl (ah p0) VB (HA.out.2.1.only (OnlyC.of_below HB.out (fun _ _ => False)) (fun _ _ _ h => h)) (by rw [List.length_map]; exact HN.out.2.2.2.2.2.1) (by rw [List.length_map, HN.out.2.2.2.1]; exact HE.out.2.2) (by rfl) (by simp [ah, Value.oneCell']) (cL _) HV.out.1 (fun q hh => by have := HX.out.2.1 1 q VB hh; have := HV.out.2; omega)).mono ?_
  rintro e wn ⟨v6, rfl, bw, dM⟩
  rw [dm] at bw
  obtain ⟨A6, c6, eD, -⟩ := bw.slice
  obtain ⟨n6, ed⟩ : ∃ y, ((x.ps.take i ++ p0 :: x.ps.drop i).map ah).length = y := ⟨_, rfl⟩
  rw [ed] at eD
  subst eD
  clear ed
  have H6 := Lib.hid (And.intro bw dM)
  clear bw dM
  try go_simp
  refine hK.out _ _ (cG hHeld H6.out.2 (HX.out.1 1 0) (HX.out.1 1 1)) (fun ae => ?_)
  clear hK K hHeld 
  have hHeld := ae
  clear ae
  try simp only [av, ax, ay, az]
  refine aO [9, 10] ?_
  iterate 2 (refine cI (v := ?_) (fun wS hSw => ?_) hHeld ?_; rotate_left; (obtain ⟨s0, s1⟩ := hSw; go_simp; try with_reducible rfl); try simp only [av, ax, ay, az])
  refine aP ?_
  refine bg 11 (fun K hK => ?_)
  obtain ⟨⟨r6, -⟩, rf, -⟩ := af (H6.out.2.heap ((Only.of_below HB.out (fun _ => False)).heap HA.out.1 (fun h => h)) (fun q hh => cu.out.1.own.2.1 1 0 a q (by decide) hh (cu.out.1.2.1 q)))
  go_simp
  refine hK.out _ _ (cG hHeld (OnlyC.aT _ a 0 _) (fun e => by have := e.1; have := HX.out.2.2; have := HN.out.2.2.2.2.2.2; omega) (fun e => by have := e.1; have := HX.out.2.2; have := HN.out.2.2.2.2.2.2; omega)) (fun ae => ?_)
  clear hK K hHeld r6 rf
  have hHeld := ae
  clear ae
  try simp only [av, ax, ay, az]
  refine wpAnyH_done (by kernel_rfl) ?_ _
  have k7 := gB (H6.out.2.heap ((Only.of_below HB.out (fun _ => False)).heap HA.out.1 (fun h => h)) (fun q hh => cu.out.1.own.2.1 1 0 a q (by decide) hh (cu.out.1.2.1 q))) (.slice A6 n6 c6)
  have s7 := ((HA.out.2.2.only (OnlyC.of_below HB.out (fun _ _ => False)) (fun _ _ _ h => h)).only H6.out.2 (fun b q hh Bo => cu.out.1.own.2.1 2 1 b q (by decide) hh Bo)).only (OnlyC.aT wn a 0 (.slice A6 n6 c6)) (fun b q hh e => cu.out.1.own.2.2 2 b q (by decide) hh e.1)
  have z7 : (wn.setCell ⟨a, 0, none⟩ (.slice A6 n6 c6)).heap.size = wn.heap.size := by simp [World.setCell]
  have W7 := Lib.hid (show ∃ u, u = wn.setCell ⟨a, 0, none⟩ (.slice A6 n6 c6) from ⟨_, rfl⟩)
  generalize h7 : wn.setCell ⟨a, 0, none⟩ (.slice A6 n6 c6) = w7 at k7 s7 z7 hHeld ⊢
  clear W7 hHeld
  obtain ⟨⟨-, y7⟩, -, -⟩ := af k7
  have H7 := Lib.hid (And.intro k7 (And.intro s7 (And.intro z7 h7)))
  clear k7 s7 z7 h7
  go_wp2_with fail
  have kN := heap_alloc_new w7 (.cells #[.pointer (some ⟨R, 0, none⟩)] 197)
  have bN := ag w7 (.cells #[.pointer (some ⟨R, 0, none⟩)] 197)
  generalize w7.alloc (.cells #[.pointer (some ⟨R, 0, none⟩)] 197) = w8 at kN bN ⊢
  obtain ⟨VN, ze⟩ : ∃ y, w7.heap.size = y := ⟨_, rfl⟩
  rw [ze] at kN ⊢
  have qL := Lib.hid (And.intro kN (And.intro ze bN))
  clear kN ze bN y7
  refine (gH w8 (H 2) _ (ak.map aD) (i + 1) _ (by simp) (aD R) VN (H7.out.2.1.only (OnlyC.of_below qL.out.2.2 (fun _ _ => False)) (fun _ _ _ h => h)) (by rw [List.length_map, HN.out.2.2.2.2.1]; exact EB) (by rw [List.length_map, HN.out.2.2.2.2.1]; exact xB) (by rfl) (by simp [aD, Value.oneCell']) (bA _) qL.out.1 (fun q hh => by have := HX.out.2.1 2 q VN hh; have h1 := qL.out.2.1; have h2 := H7.out.2.2.1; have h3 := H6.out.2.size; have h4 := HB.out.size; have h5 := lt_of_heap H5.out.2.2.1; have h6 := H5.out.2.2.2.2; omega)).mono ?_
  rintro e w9 ⟨v9, rfl, bM, dS⟩
  rw [dm] at bM
  obtain ⟨A9, c9, eW, -⟩ := bM.slice
  obtain ⟨n9, eX⟩ : ∃ y, ((ak.take (i + 1) ++ R :: ak.drop (i + 1)).map aD).length = y := ⟨_, rfl⟩
  rw [eX] at eW
  subst eW
  clear eX
  obtain ⟨⟨-, y9⟩, -, f9⟩ := af (dS.heap ((Only.of_below qL.out.2.2 (fun _ => False)).heap H7.out.1 (fun h => h)) (fun q hh => cu.out.1.own.2.1 2 0 a q (by decide) hh (cu.out.1.2.1 q)))
  have H9 := Lib.hid (And.intro bM dS)
  clear bM dS
  go_wp2_with fail
  first | refine bodyPost_end (results_none rfl _ _ _) rfl ?_ | refine bodyPost_ret (results_none rfl _ _ _) rfl ?_
  obtain ⟨a1, a2, a3, a4, a5, a6, a7, a8, a9, GX, J9, a12, Ka⟩ := cu.out
  unfold mN
  rw [nt a3 a7 HN.out.2.2.1 HN.out.2.1]
  have hend := lW (r := R) a1 a2 a3 a4 a5 a6 a7 H5.out.1 (Nat.le_of_lt H5.out.2.2.2.2.1) (lt_of_heap H5.out.2.2.1) H5.out.2.1 H5.out.2.2.1 a8 a9 GX J9 a12 Ka HB.out H6.out.2 H6.out.1 (by rw [H7.out.2.2.2]; exact qL.out.2.2.mono (Nat.le_of_eq H7.out.2.2.1.symm)) H9.out.2 H9.out.1
  exact ⟨rfl, hend⟩
theorem qM (w : World) (d a i o : Nat) (x k : ND) (F : Nat -> Nat -> Prop) (h : ai w (d + 1) a x F) (hF : ∀ b q, F b q -> b < w.heap.size) (hk : x.ks[i]? = some k) (EA : i <= x.ps.length) (hpl : x.ps.length <= 1000) (hkl : x.ks.length <= 1000)
  (hkn : k.ps.length = 2 * o) (hkk : d ≠ 0 -> k.ks.length = 2 * o + 1) (ho : 2 <= o) (fq : o <= 16) :
  Calls Tryz.prog 94 #[.pointer (some ⟨a, 0, none⟩), .int .i64 i, .int .i64 o] w (mN d a i o x F w) := by
 obtain ⟨_, vp, vk, ak, H, hO, _⟩ := h.open_
 have PM := hO
 obtain ⟨_, _, g3, g4, g5, g6, _⟩ := PM
 have hil := (List.getElem?_eq_some_iff.1 hk).1
 obtain ⟨l, hl⟩ : ∃ l, ak[i]? = some l := ⟨_, List.getElem?_eq_getElem (by omega)⟩
 obtain ⟨hd0, I1, GW, gI, H1, hK, hT⟩ := (show ai w d l k (H (i + 3)) from g6 i l k hl hk).open_
 have hK' := hK
 obtain ⟨_, _, k3, k4, k5, _, _⟩ := hK'
 obtain ⟨A, cp, rfl, _⟩ := g3.slice
 obtain ⟨bk, ok, ck, rfl, _, _, r2⟩ := g4.ptr hl
 obtain ⟨m, rfl⟩ : ∃ m, o = m + 1 := ⟨o - 1, by omega⟩
 obtain ⟨p0, hp0⟩ : ∃ p, k.ps[m]? = some p := ⟨_, List.getElem?_eq_getElem (by omega)⟩
 obtain ⟨b1, o1, c1, e1, hc1, hcm, p1, p2⟩ := k3.parts (by simp; omega)
 obtain ⟨Wi, P4, c1', P5, _, _, r4, r5, _⟩ := k3.pair hp0
 have e2 := e1.symm.trans P5
 simp only [List.length_map, Value.slice.injEq, Option.some.injEq, Addr.mk.injEq, true_and, and_true] at e2
 obtain ⟨⟨rfl, rfl⟩, rfl⟩ := e2
 have hlen : (k.ps.map ah).length = k.ps.length := List.length_map _
 rw [hlen] at e1 hc1 p1 p2
 have P6 := p1 m (by omega)
 have P7 := p2 (m + 1) (by omega)
 rw [<- List.map_take] at P6
 rw [<- List.map_drop] at P7
 have kM : (x.ps.map ah).length = x.ps.length := List.length_map _
 rw [kM] at hO
 cases d with
 | zero =>
  have dW := hd0 rfl
  have P8 : gI = [] := List.eq_nil_of_length_eq_zero (by rw [k5, dW]; rfl)
  subst P8
  obtain ⟨LI, c2, e3, _⟩ := k4.slice
  have e4 : GW = .slice LI 0 c2 := by simpa using e3
  subst e4
  exact zb w 0 a i (m + 1) m l k.ps.length c1 b1 o1 x.ps.length cp bk ok ck ak.length A x k F _ _ ak [] H H1 LI c2 hO hF hk hl EA hK hT hd0 hkn ho fq rfl rfl rfl (by omega) hpl e1 hkn hc1 hcm rfl r2 p0 hp0 r4 r5
   _ _ (fun _ _ => True) (fun _ _ => False) (P6.mono fun b q hh => hh) (P7.mono fun b q hh => hh) (by rw [List.take_nil, List.map_nil]; exact aj.mono (F := H1 2) (by simpa using k4) (fun b q hh => ⟨hh, trivial⟩)) (by rw [List.drop_nil, List.map_nil]; exact aj.nil 1 197 w _) (fun b q h1 h2 => by have := h1.2; have := h2.2; omega) (fun _ _ _ h => h)
 | succ d =>
  have Kb := hkk (by omega)
  obtain ⟨b2, o2, c2, e3, hc2, hcm2, q1, q2⟩ := k4.parts (by simp; omega)
  have I7 : (gI.map aD).length = gI.length := List.length_map _
  rw [I7] at e3 hc2 q1 q2
  have R3 := q1 (m + 1) (by omega)
  have P9 := q2 (m + 1) (by omega)
  rw [<- List.map_take] at R3
  rw [<- List.map_drop] at P9
  rw [Nat.mul_one] at P9
  exact EC w (d + 1) a i (m + 1) m l k.ps.length c1 b1 o1 x.ps.length cp bk ok ck ak.length A x k F _ _ ak gI H H1 b2 o2 gI.length c2 (by omega) hc2 hcm2 hO hF hk hl EA hK hT hd0 hkn ho fq rfl rfl rfl (by omega) hpl e1 hkn hc1 hcm e3 r2 p0 hp0 r4 r5
   _ _ _ _ (P6.mono fun b q hh => hh) (P7.mono fun b q hh => hh) (R3.mono fun b q hh => hh) (P9.mono fun b q hh => hh) (fun b q h1 h2 => by have := h1.2; have := h2.2; omega) (fun b q h1 h2 => by have := h1.2; have := h2.2; omega)
def Gk (p : Pr) : Value := .agg #[.string ⟨p.1.toArray⟩, .string ⟨p.2.toArray⟩]
def zg (d a : Nat) (y : ND) (F : Nat -> Nat -> Prop) (r : Option (List UInt8)) (w : World) (e : Ending) (w' : World) : Prop :=
 e = .returned (.tuple #[.string ⟨(r.getD []).toArray⟩, .bool r.isSome]) /\ ai w' d a y (fun b q => F b q \/ w.heap.size <= b) /\ OnlyC F w w'
set_option maxHeartbeats 4000000 in
theorem Bp (w : World) (d a o : Nat) (x : ND) (F : Nat -> Nat -> Prop) (p : Pr) (old : List UInt8) (h : ai w d a x F) (hF : ∀ b q, F b q -> b < w.heap.size) (hu : Up x.ps) (hlen : x.ps.length <= 1000) (hh : hit p.1 x.ps = true) (hv : x.ps[posOf p.1 x.ps]? = some (p.1, old)) :
  Calls Tryz.prog 93 #[.pointer (some ⟨a, 0, none⟩), Gk p, .int .i64 o] w (zg d a (.mk (x.ps.take (posOf p.1 x.ps) ++ p :: x.ps.drop (posOf p.1 x.ps + 1)) x.ks) F (some old) w) := by
 unfold Gk
 have hb1 := ag w (.cells #[.string ⟨p.1.toArray⟩, .string ⟨p.2.toArray⟩] 210)
 have k1 := heap_alloc_new w (.cells #[.string ⟨p.1.toArray⟩, .string ⟨p.2.toArray⟩] 210)
 have h1 := h.below hb1
 go_enter Tryz.func93, Tryz.ntmps93
 go_upto_region 1 with fail
 generalize w.alloc (.cells #[.string ⟨p.1.toArray⟩, .string ⟨p.2.toArray⟩] 210) = w1 at hb1 k1 h1 ⊢
 obtain ⟨P, hP⟩ : ∃ y, w.heap.size = y := ⟨_, rfl⟩
 rw [hP] at k1 ⊢
 have mA := Lib.hid (find_ok w1 F a x p.1 h1.base hu hlen)
 rw [hh] at mA
 obtain ⟨i, hi⟩ : ∃ i, posOf p.1 x.ps = i := ⟨_, rfl⟩
 rw [hi] at mA hv ⊢
 have HI := Lib.hid hi
 have H1 := Lib.hid (And.intro hb1 (And.intro k1 (And.intro h1 hP)))
 obtain ⟨y0, y1⟩ := dR k1
 clear h hb1 k1 h1 hP hh hi hu
 go_wp2_with fail
 refine mA.out.mono ?_
 rintro e w2 ⟨rfl, hb2⟩
 have h2 := H1.out.2.2.1.below hb2
 have k2 := (Only.of_below hb2 (fun _ => False)).heap H1.out.2.1 (fun h => h)
 clear mA y0 y1
 obtain ⟨hd0, vp, vk, ak, H, hO, hT⟩ := h2.open_
 obtain ⟨b, off, c, rfl, q1, q2, c0, c1, f0, f1⟩ := hO.2.2.1.pair hv
 obtain ⟨⟨r0, -⟩, -, -⟩ := af hO.1
 obtain ⟨y0, y1⟩ := dR k2
 have hs := hO.2.2.1.JZ (v' := p.2) hv
 have H2 := Lib.hid (And.intro hb2 (And.intro hd0 (And.intro hO (And.intro hs hF))))
 have hil := (List.getElem?_eq_some_iff.1 hv).1
 have i1 : (0 : Int) <= (i : Int) := by omega
 have i2 : (i : Int) < (x.ps.length : Int) := by omega
 have Wj : ¬ P = b := by
  obtain ⟨b', o', c', cs, e1, z2, z3, z4, z6, z7, z8, z9⟩ := hO.2.2.1.lies (by simp; omega)
  simp only [List.length_map, Value.slice.injEq, Option.some.injEq, Addr.mk.injEq, and_true] at e1
  obtain ⟨⟨rfl, rfl⟩, _⟩ := e1
  have := hF _ _ (hO.own.1 1 _ _ (z8 off (Nat.le_refl _) (by omega)))
  have := H1.out.2.2.2
  omega
 have Wk := Lib.hid hv
 clear h2 k2 hb2 hd0 hO hT hs hv hF
 go_wp2_with fail
 go_region
 go_wp2_with fail
 go_ret2
 obtain ⟨hb2, hd0, hO, hs, hF⟩ := H2.out
 rw [HI.out]
 have jF := H1.out.1.trans (hb2.mono H1.out.1.size)
 have hF2 : ∀ b q, F b q -> b < w2.heap.size := fun b q hh => Nat.lt_of_lt_of_le (hF b q hh) jF.size
 have hr := hO.lX (w' := w2.setCell ⟨b, off + i * 2 + 1, none⟩ (.string ⟨p.2.toArray⟩)) hd0 hF2 (hs.2.heap hO.1 (fun q hh => hO.own.2.1 1 0 a q (by decide) hh (hO.2.1 q))) (hs.2.mono (fun _ _ _ hh => .inl hh)) (hs.1.mono (fun _ _ hh => .inl hh))
 have e1 : (p.1, p.2) = p := rfl
 rw [e1] at hr
 refine ⟨rfl, (ai.only ((OnlyC.refl (fun _ _ => False) _).drew) hr.1 (fun _ _ _ h => h)).mono (fun b q hh => hh.imp id (fun h => Nat.le_trans jF.size h)), ((OnlyC.of_below jF F).trans hr.2 (fun _ _ _ h => h)).drew⟩
set_option maxHeartbeats 4000000 in
theorem ED (w : World) (a o : Nat) (x : ND) (F : Nat -> Nat -> Prop) (p : Pr) (h : ai w 0 a x F) (hF : ∀ b q, F b q -> b < w.heap.size) (hu : Up x.ps) (hlen : x.ps.length <= 1000) (hh : hit p.1 x.ps = false) :
  Calls Tryz.prog 93 #[.pointer (some ⟨a, 0, none⟩), Gk p, .int .i64 o] w (zg 0 a (.mk (x.ps.take (posOf p.1 x.ps) ++ p :: x.ps.drop (posOf p.1 x.ps)) []) F none w) := by
 unfold Gk
 have hb1 := ag w (.cells #[.string ⟨p.1.toArray⟩, .string ⟨p.2.toArray⟩] 210)
 have k1 := heap_alloc_new w (.cells #[.string ⟨p.1.toArray⟩, .string ⟨p.2.toArray⟩] 210)
 have h1 := h.below hb1
 go_enter Tryz.func93, Tryz.ntmps93
 go_upto_region 1 with fail
 generalize w.alloc (.cells #[.string ⟨p.1.toArray⟩, .string ⟨p.2.toArray⟩] 210) = w1 at hb1 k1 h1 ⊢
 obtain ⟨P, hP⟩ : ∃ y, w.heap.size = y := ⟨_, rfl⟩
 rw [hP] at k1 ⊢
 have mA := Lib.hid (find_ok w1 F a x p.1 h1.base hu hlen)
 rw [hh] at mA
 have hpos := dt p.1 x.ps
 obtain ⟨i, hi⟩ : ∃ i, posOf p.1 x.ps = i := ⟨_, rfl⟩
 rw [hi] at mA hpos
 have HI := Lib.hid hi
 have H1 := Lib.hid (And.intro hb1 (And.intro k1 (And.intro h1 (And.intro hP hF))))
 obtain ⟨y0, y1⟩ := dR k1
 clear h hb1 k1 h1 hP hh hi hu hF
 go_wp2_with fail
 refine mA.out.mono ?_
 rintro e w2 ⟨rfl, hb2⟩
 have h2 := H1.out.2.2.1.below hb2
 have k2 := (Only.of_below hb2 (fun _ => False)).heap H1.out.2.1 (fun h => h)
 have jF := H1.out.1.trans (hb2.mono H1.out.1.size)
 have hF2 : ∀ b q, F b q -> b < w2.heap.size := fun b q hh => Nat.lt_of_lt_of_le (H1.out.2.2.2.2 b q hh) jF.size
 have G0 : ∀ q, ¬ F P q := fun q hh => by have := H1.out.2.2.2.2 P q hh; have := H1.out.2.2.2.1; omega
 clear mA y0 y1
 obtain ⟨hd0, vp, vk, ak, H, hO, hT⟩ := h2.open_
 have hks := hd0 rfl
 have hp0 : ak = [] := List.eq_nil_of_length_eq_zero (by rw [hO.2.2.2.2.1, hks]; rfl)
 subst hp0
 obtain ⟨A, c, e1, -⟩ := hO.2.2.1.slice
 rw [List.length_map] at e1
 subst e1
 obtain ⟨A2, c2, e2, -⟩ := hO.2.2.2.1.slice
 have e2 : vk = .slice A2 0 c2 := by simpa using e2
 subst e2
 obtain ⟨n, hn⟩ : ∃ n, x.ps.length = n := ⟨_, rfl⟩
 rw [hn] at hO hlen hpos
 obtain ⟨⟨-, z1⟩, -, -⟩ := af hO.1
 have gV := Lib.hid (cP w2 a c2 A2 z1)
 have HA := Lib.hid (And.intro hO.1 (And.intro hO (And.intro jF (And.intro hF2 (And.intro G0 (And.intro k2 (And.intro hks (And.intro hn hpos))))))))
 clear h2 k2 hb2 jF hF2 G0 hd0 hT hks z1 hn hpos
 go_wp2_with fail
 refine gV.out.mono ?_
 rintro e w3 ⟨rfl, rfl⟩
 clear gV
 go_upto_region 7 with fail
 have tS := dR HA.out.2.2.2.2.2.1
 refine wp_region_held_drew (S := (fun W => W.cell? ⟨P, 0, none⟩ = some (.string ⟨p.1.toArray⟩) /\ W.cell? ⟨P, 1, none⟩ = some (.string ⟨p.2.toArray⟩))) (by kernel_rfl) tS (fun hHeld => ?_)
 generalize hW3 : World.drew w2 = W3 at hHeld ⊢
 have HB := Lib.hid (show Below w2.heap.size w2 W3 from hW3 ▸ (Below.refl _ _).drew)
 clear hW3 tS
 refine aO [0, 1, 2, 3, 5, 6] ?_
 iterate 6 (refine cI (v := ?_) (fun wS hSw => ?_) hHeld ?_; rotate_left; (obtain ⟨s0, s1⟩ := hSw; go_simp; try with_reducible rfl); try simp only [av, ax, ay, az])
 refine aP ?_
 refine wpAnyH_ready (rs := [4, 7]) (by kernel_rfl) (by simp) (cy (i := 4) rfl (fun K hK => ?_) (cy (i := 7) rfl (fun K hK => ?_) AllReadyH.nil))
 ·skip
  obtain ⟨⟨r6, -⟩, -, -⟩ := af ((Only.of_below HB.out (fun _ => False)).heap HA.out.1 (fun h => h))
  go_simp
  refine hK.out _ _ (hHeld) (fun ae => ?_)
  clear hK K hHeld r6
  have hHeld := ae
  clear ae
  try simp only [av, ax, ay, az]
  refine bg 7 (fun K hK => ?_)
  go_simp
  refine hK.out _ _ (jm hHeld (ag _ _)) (fun ae => ?_)
  clear hK K hHeld 
  have hHeld := ae
  clear ae
  try simp only [av, ax, ay, az]
  have kV := heap_alloc_new W3 (.cells #[.string ⟨p.1.toArray⟩, .string ⟨p.2.toArray⟩] 210)
  have bV := ag W3 (.cells #[.string ⟨p.1.toArray⟩, .string ⟨p.2.toArray⟩] 210)
  generalize W3.alloc (.cells #[.string ⟨p.1.toArray⟩, .string ⟨p.2.toArray⟩] 210) = W5 at kV bV hHeld ⊢
  obtain ⟨VB, fD⟩ : ∃ y, W3.heap.size = y := ⟨_, rfl⟩
  rw [fD] at kV ⊢
  have HV := Lib.hid (And.intro kV (show w2.heap.size <= VB by have h1 := HB.out.size; omega))
  have HB := Lib.hid (HB.out.trans (bV.mono HB.out.size))
  clear kV bV fD
  refine bg 8 (fun K hK => ?_)
  go_simp
  refine (gG W5 (H 1) _ (x.ps.map ah) i _ rfl (ah p) VB (HA.out.2.1.2.2.1.only (OnlyC.of_below HB.out (fun _ _ => False)) (fun _ _ _ h => h)) (by rw [List.length_map, HA.out.2.2.2.2.2.2.2.1]; exact HA.out.2.2.2.2.2.2.2.2) (by rw [List.length_map, HA.out.2.2.2.2.2.2.2.1]; exact hlen) (by rfl) (by simp [ah, Value.oneCell']) (cL _) HV.out.1 (fun q hh => by have h1 := HA.out.2.2.2.1 VB q (HA.out.2.1.own.1 1 VB q hh); have h2 := HV.out.2; omega)).mono ?_
  rintro e wn ⟨v6, rfl, bw, dM⟩
  rw [dm] at bw
  obtain ⟨A6, c6, eD, -⟩ := bw.slice
  obtain ⟨n6, ed⟩ : ∃ y, ((x.ps.take i ++ p :: x.ps.drop i).map ah).length = y := ⟨_, rfl⟩
  rw [ed] at eD
  subst eD
  clear ed
  have H6 := Lib.hid (And.intro bw dM)
  clear bw dM
  try go_simp
  refine hK.out _ _ (cG hHeld H6.out.2 (fun hh => HA.out.2.2.2.2.1 _ (HA.out.2.1.own.1 1 _ _ hh)) (fun hh => HA.out.2.2.2.2.1 _ (HA.out.2.1.own.1 1 _ _ hh))) (fun ae => ?_)
  clear hK K hHeld 
  have hHeld := ae
  clear ae
  try simp only [av, ax, ay, az]
  refine aO [9, 10] ?_
  iterate 2 (refine cI (v := ?_) (fun wS hSw => ?_) hHeld ?_; rotate_left; (obtain ⟨s0, s1⟩ := hSw; go_simp; try with_reducible rfl); try simp only [av, ax, ay, az])
  refine aP ?_
  refine bg 11 (fun K hK => ?_)
  obtain ⟨⟨r6, -⟩, rf, -⟩ := af (H6.out.2.heap ((Only.of_below HB.out (fun _ => False)).heap HA.out.1 (fun h => h)) (fun q hh => HA.out.2.1.own.2.1 1 0 a q (by decide) hh (HA.out.2.1.2.1 q)))
  go_simp
  refine hK.out _ _ (cG hHeld (OnlyC.aT _ a 0 _) (fun e => HA.out.2.2.2.2.1 0 (by have e1 := e.1; rw [e1]; exact HA.out.2.1.own.1 0 a 0 (HA.out.2.1.2.1 0))) (fun e => HA.out.2.2.2.2.1 0 (by have e1 := e.1; rw [e1]; exact HA.out.2.1.own.1 0 a 0 (HA.out.2.1.2.1 0)))) (fun ae => ?_)
  clear hK K hHeld r6 rf
  have hHeld := ae
  clear ae
  try simp only [av, ax, ay, az]
  refine wpAnyH_done (by kernel_rfl) ?_ _
  go_wp2_with fail
  go_ret2
  rw [HI.out]
  obtain ⟨ha, hO, jF, hF2, G0, -, hks, -, -⟩ := HA.out
  have Qa := (Only.of_below HB.out (fun _ => False)).heap ha (fun h => h)
  have ho := ((OnlyC.of_below HB.out (fun b q => H 1 b q \/ b = a)).trans H6.out.2 (fun b q _ hh => .inl hh)).trans (OnlyC.aT wn a 0 (.slice A6 n6 c6)) (fun b q _ e => .inr e.1)
  have hs := (H6.out.1.only (OnlyC.aT wn a 0 (.slice A6 n6 c6)) (fun b q hh e => hh.elim (fun h1 => hO.own.2.2 1 b q (by decide) h1 e.1) (fun h1 => by have h2 := hF2 a 0 (hO.own.1 0 a 0 (hO.2.1 0)); have h3 := HB.out.size; have h4 := e.1; omega))).mono (fun b q hh => hh.imp id (fun h => Nat.le_trans HB.out.size h))
  have hr := hO.lX (fun _ => hks) hF2 (gB (H6.out.2.heap Qa (fun q hh => hO.own.2.1 1 0 a q (by decide) hh (hO.2.1 q))) (.slice A6 n6 c6)) ho hs
  rw [hks] at hr
  exact ⟨rfl, hr.1.mono (fun b q hh => hh.imp id (fun h => Nat.le_trans jF.size h)), (OnlyC.of_below jF F).trans hr.2 (fun _ _ _ h => h)⟩
 ·skip
  go_simp
  refine hK.out _ _ (jm hHeld (ag _ _)) (fun ae => ?_)
  clear hK K hHeld 
  have hHeld := ae
  clear ae
  try simp only [av, ax, ay, az]
  have kV := heap_alloc_new W3 (.cells #[.string ⟨p.1.toArray⟩, .string ⟨p.2.toArray⟩] 210)
  have bV := ag W3 (.cells #[.string ⟨p.1.toArray⟩, .string ⟨p.2.toArray⟩] 210)
  generalize W3.alloc (.cells #[.string ⟨p.1.toArray⟩, .string ⟨p.2.toArray⟩] 210) = W5 at kV bV hHeld ⊢
  obtain ⟨VB, fD⟩ : ∃ y, W3.heap.size = y := ⟨_, rfl⟩
  rw [fD] at kV ⊢
  have HV := Lib.hid (And.intro kV (show w2.heap.size <= VB by have h1 := HB.out.size; omega))
  have HB := Lib.hid (HB.out.trans (bV.mono HB.out.size))
  clear kV bV fD
  refine bg 4 (fun K hK => ?_)
  obtain ⟨⟨r6, -⟩, -, -⟩ := af ((Only.of_below HB.out (fun _ => False)).heap HA.out.1 (fun h => h))
  go_simp
  refine hK.out _ _ (hHeld) (fun ae => ?_)
  clear hK K hHeld r6
  have hHeld := ae
  clear ae
  try simp only [av, ax, ay, az]
  refine bg 8 (fun K hK => ?_)
  go_simp
  refine (gG W5 (H 1) _ (x.ps.map ah) i _ rfl (ah p) VB (HA.out.2.1.2.2.1.only (OnlyC.of_below HB.out (fun _ _ => False)) (fun _ _ _ h => h)) (by rw [List.length_map, HA.out.2.2.2.2.2.2.2.1]; exact HA.out.2.2.2.2.2.2.2.2) (by rw [List.length_map, HA.out.2.2.2.2.2.2.2.1]; exact hlen) (by rfl) (by simp [ah, Value.oneCell']) (cL _) HV.out.1 (fun q hh => by have h1 := HA.out.2.2.2.1 VB q (HA.out.2.1.own.1 1 VB q hh); have h2 := HV.out.2; omega)).mono ?_
  rintro e wn ⟨v6, rfl, bw, dM⟩
  rw [dm] at bw
  obtain ⟨A6, c6, eD, -⟩ := bw.slice
  obtain ⟨n6, ed⟩ : ∃ y, ((x.ps.take i ++ p :: x.ps.drop i).map ah).length = y := ⟨_, rfl⟩
  rw [ed] at eD
  subst eD
  clear ed
  have H6 := Lib.hid (And.intro bw dM)
  clear bw dM
  try go_simp
  refine hK.out _ _ (cG hHeld H6.out.2 (fun hh => HA.out.2.2.2.2.1 _ (HA.out.2.1.own.1 1 _ _ hh)) (fun hh => HA.out.2.2.2.2.1 _ (HA.out.2.1.own.1 1 _ _ hh))) (fun ae => ?_)
  clear hK K hHeld 
  have hHeld := ae
  clear ae
  try simp only [av, ax, ay, az]
  refine aO [9, 10] ?_
  iterate 2 (refine cI (v := ?_) (fun wS hSw => ?_) hHeld ?_; rotate_left; (obtain ⟨s0, s1⟩ := hSw; go_simp; try with_reducible rfl); try simp only [av, ax, ay, az])
  refine aP ?_
  refine bg 11 (fun K hK => ?_)
  obtain ⟨⟨r6, -⟩, rf, -⟩ := af (H6.out.2.heap ((Only.of_below HB.out (fun _ => False)).heap HA.out.1 (fun h => h)) (fun q hh => HA.out.2.1.own.2.1 1 0 a q (by decide) hh (HA.out.2.1.2.1 q)))
  go_simp
  refine hK.out _ _ (cG hHeld (OnlyC.aT _ a 0 _) (fun e => HA.out.2.2.2.2.1 0 (by have e1 := e.1; rw [e1]; exact HA.out.2.1.own.1 0 a 0 (HA.out.2.1.2.1 0))) (fun e => HA.out.2.2.2.2.1 0 (by have e1 := e.1; rw [e1]; exact HA.out.2.1.own.1 0 a 0 (HA.out.2.1.2.1 0)))) (fun ae => ?_)
  clear hK K hHeld r6 rf
  have hHeld := ae
  clear ae
  try simp only [av, ax, ay, az]
  refine wpAnyH_done (by kernel_rfl) ?_ _
  go_wp2_with fail
  go_ret2
  rw [HI.out]
  obtain ⟨ha, hO, jF, hF2, G0, -, hks, -, -⟩ := HA.out
  have Qa := (Only.of_below HB.out (fun _ => False)).heap ha (fun h => h)
  have ho := ((OnlyC.of_below HB.out (fun b q => H 1 b q \/ b = a)).trans H6.out.2 (fun b q _ hh => .inl hh)).trans (OnlyC.aT wn a 0 (.slice A6 n6 c6)) (fun b q _ e => .inr e.1)
  have hs := (H6.out.1.only (OnlyC.aT wn a 0 (.slice A6 n6 c6)) (fun b q hh e => hh.elim (fun h1 => hO.own.2.2 1 b q (by decide) h1 e.1) (fun h1 => by have h2 := hF2 a 0 (hO.own.1 0 a 0 (hO.2.1 0)); have h3 := HB.out.size; have h4 := e.1; omega))).mono (fun b q hh => hh.imp id (fun h => Nat.le_trans HB.out.size h))
  have hr := hO.lX (fun _ => hks) hF2 (gB (H6.out.2.heap Qa (fun q hh => hO.own.2.1 1 0 a q (by decide) hh (hO.2.1 q))) (.slice A6 n6 c6)) ho hs
  rw [hks] at hr
  exact ⟨rfl, hr.1.mono (fun b q hh => hh.imp id (fun h => Nat.le_trans jF.size h)), (OnlyC.of_below jF F).trans hr.2 (fun _ _ _ h => h)⟩
theorem zh {α : Type} {l : List α} {i : Nat} (hi : i < l.length) (x : α) (j : Nat) : (l.take i ++ x :: l.drop (i + 1))[j]? = if j = i then some x else l[j]? := by
 rw [List.getElem?_append]
 by_cases c : j < i
 ·rw [if_pos (by simp; omega), if_neg (by omega), List.getElem?_take, if_pos c]
 ·rw [if_neg (by simp; omega), List.length_take, Nat.min_eq_left (by omega)]
  by_cases e : j = i
  ·subst e; simp
  ·rw [if_neg e, show j - i = (j - i - 1) + 1 by omega, List.getElem?_cons_succ, List.getElem?_drop]
   congr 1
   omega
theorem MF {α : Type} {l : List α} {i : Nat} (hi : i < l.length) (y : α) : (l.take i ++ y :: l.drop (i + 1))[i]? = some y := by
 rw [zh hi, if_pos rfl]
theorem aN.below {w w' : World} {d a : Nat} {x : ND} {F : Nat -> Nat -> Prop} {vp vk : Value} {ak : List Nat} {H : Nat -> Nat -> Nat -> Prop} (h : aN w (bu w d) a x F vp vk ak H) (hb : Below w.heap.size w w') : aN w' (bu w' d) a x F vp vk ak H := by
 have ho := OnlyC.of_below hb (fun _ _ => False)
 obtain ⟨g1, g2, g3, g4, g5, g6, g7⟩ := h
 exact ⟨ho.heap g1 (fun _ h => h), g2, g3.only ho (fun _ _ _ h => h), g4.only ho (fun _ _ _ h => h), g5, fun i p k hp hk => (g6 i p k hp hk).only ho (fun _ _ _ h => h), g7⟩
def I8 (d o : Nat) (p : Pr) : Prop := ∀ (w : World) (a lo : Nat) (x : ND) (F : Nat -> Nat -> Prop), ai w d a x F -> (∀ b q, F b q -> b < w.heap.size) -> dX d o lo (2 * o - 1) x -> Up (aS d x) ->
 Calls Tryz.prog 93 #[.pointer (some ⟨a, 0, none⟩), Gk p, .int .i64 o] w (zg d a (fB d x p o) F (look p.1 (aS d x)) w)
theorem qN {W W' : World} {F : Nat -> Nat -> Prop} {b1 q1 b2 q2 b3 q3 b4 q4 : Nat} {v1 v2 v3 v4 : Value} (h : W.cell? ⟨b1, q1, none⟩ = some v1 /\ W.cell? ⟨b2, q2, none⟩ = some v2 /\ W.cell? ⟨b3, q3, none⟩ = some v3 /\ W.cell? ⟨b4, q4, none⟩ = some v4) (ho : OnlyC F W W') (h1 : ¬ F b1 q1) (h2 : ¬ F b2 q2) (h3 : ¬ F b3 q3) (h4 : ¬ F b4 q4) : W'.cell? ⟨b1, q1, none⟩ = some v1 /\ W'.cell? ⟨b2, q2, none⟩ = some v2 /\ W'.cell? ⟨b3, q3, none⟩ = some v3 /\ W'.cell? ⟨b4, q4, none⟩ = some v4 :=
 ⟨ho.cell h.1 h1, ho.cell h.2.1 h2, ho.cell h.2.2.1 h3, ho.cell h.2.2.2 h4⟩
set_option maxHeartbeats 4000000 in
theorem Kc (w : World) (d a o lo : Nat) (x : ND) (F : Nat -> Nat -> Prop) (p : Pr) (ih : I8 d o p) (ho : 2 <= o) (fq : o <= 16) (h : ai w (d + 1) a x F) (hF : ∀ b q, F b q -> b < w.heap.size) (hwf : dX (d + 1) o lo (2 * o - 1) x) (hup : Up (aS (d + 1) x)) (hh : hit p.1 x.ps = false) :
  Calls Tryz.prog 93 #[.pointer (some ⟨a, 0, none⟩), Gk p, .int .i64 o] w (zg (d + 1) a (fB (d + 1) x p o) F (look p.1 (aS (d + 1) x)) w) := by
 have hu := qF hwf hup
 have hlen : x.ps.length <= 1000 := by have := hwf.len; omega
 have HW := Lib.hid (And.intro hwf (And.intro hup (And.intro hh (And.intro ih ho))))
 clear ih hwf hup ho
 unfold Gk
 have hb1 := ag w (.cells #[.string ⟨p.1.toArray⟩, .string ⟨p.2.toArray⟩] 210)
 have k1 := heap_alloc_new w (.cells #[.string ⟨p.1.toArray⟩, .string ⟨p.2.toArray⟩] 210)
 have h1 := h.below hb1
 go_enter Tryz.func93, Tryz.ntmps93
 go_upto_region 1 with fail
 generalize w.alloc (.cells #[.string ⟨p.1.toArray⟩, .string ⟨p.2.toArray⟩] 210) = w1 at hb1 k1 h1 ⊢
 obtain ⟨P, hP⟩ : ∃ y, w.heap.size = y := ⟨_, rfl⟩
 rw [hP] at k1 ⊢
 have mA := Lib.hid (find_ok w1 F a x p.1 h1.base hu hlen)
 rw [hh] at mA
 have hpos := dt p.1 x.ps
 obtain ⟨i, hi⟩ : ∃ i, posOf p.1 x.ps = i := ⟨_, rfl⟩
 rw [hi] at mA hpos
 have HI := Lib.hid hi
 have H1 := Lib.hid (And.intro hb1 (And.intro k1 (And.intro h1 (And.intro hP hF))))
 obtain ⟨y0, y1⟩ := dR k1
 clear h hb1 k1 h1 hP hh hi hu hF
 go_wp2_with fail
 refine mA.out.mono ?_
 rintro e w2 ⟨rfl, hb2⟩
 have h2 := H1.out.2.2.1.below hb2
 have k2 := (Only.of_below hb2 (fun _ => False)).heap H1.out.2.1 (fun h => h)
 have jF := H1.out.1.trans (hb2.mono H1.out.1.size)
 have hF2 : ∀ b q, F b q -> b < w2.heap.size := fun b q hh => Nat.lt_of_lt_of_le (H1.out.2.2.2.2 b q hh) jF.size
 have G0 : ∀ q, ¬ F P q := fun q hh => by have := H1.out.2.2.2.2 P q hh; have := H1.out.2.2.2.1; omega
 clear mA y0 y1
 obtain ⟨hd0, vp, vk, ak, H, hO, hT⟩ := h2.open_
 have hkl := HW.out.1.kids
 have hil : i < x.ks.length := by omega
 obtain ⟨k, hk⟩ : ∃ k, x.ks[i]? = some k := ⟨_, List.getElem?_eq_getElem hil⟩
 obtain ⟨l, hl⟩ : ∃ l, ak[i]? = some l := ⟨_, List.getElem?_eq_getElem (by rw [hO.2.2.2.2.1]; exact hil)⟩
 obtain ⟨A, c, e1, -⟩ := hO.2.2.1.slice
 rw [List.length_map] at e1
 subst e1
 obtain ⟨bk, ok, ck, e2, -, -, r2⟩ := hO.2.2.2.1.ptr hl
 subst e2
 obtain ⟨nk, jn⟩ : ∃ n, ak.length = n := ⟨_, rfl⟩
 rw [jn] at hO
 have MG : i < nk := by rw [<- jn, hO.2.2.2.2.1]; exact hil
 have xB : nk <= 1001 := by rw [<- jn, hO.2.2.2.2.1]; omega
 obtain ⟨n, hn⟩ : ∃ n, x.ps.length = n := ⟨_, rfl⟩
 rw [hn] at hO hlen hpos
 obtain ⟨⟨-, z1⟩, -, -⟩ := af hO.1
 have gV := Lib.hid (dQ w2 a nk ck _ (by omega) z1)
 have hbk : H 2 bk (ok + i) := by
  obtain ⟨b', o', c', cs, e1, q2, q3, q4, q6, q7, q8, q9⟩ := hO.2.2.2.1.lies (by rw [List.length_map]; omega)
  simp only [List.length_map, Value.slice.injEq, Option.some.injEq, Addr.mk.injEq, and_true] at e1
  obtain ⟨⟨rfl, rfl⟩, -, rfl⟩ := e1
  rw [List.length_map] at q2
  exact q8 _ (by omega) (by omega)
 obtain ⟨y0, y1⟩ := dR k2
 have tS := And.intro z1 (And.intro r2 (And.intro y0 y1))
 have HA := Lib.hid (And.intro hO (And.intro jF (And.intro hF2 (And.intro G0 (And.intro hk (And.intro hl (And.intro hn (And.intro hbk (And.intro hil hpos)))))))))
 have i1 : (0 : Int) <= (i : Int) := by omega
 have i2 : (i : Int) < (nk : Int) := by omega
 clear h2 k2 hb2 jF hF2 G0 hd0 hT z1 hn hpos hO hk hl hil hkl jn hbk r2 y0 y1
 go_wp2_with fail
 refine gV.out.mono ?_
 rintro e w3 ⟨rfl, rfl⟩
 clear gV
 go_upto_region 9 with fail
 refine wp_region_held_drew (S := (fun W => W.cell? ⟨a, 1, none⟩ = some (.slice (some ⟨bk, ok, none⟩) nk ck) /\ W.cell? ⟨bk, ok + i, none⟩ = some (.pointer (some ⟨l, 0, none⟩)) /\ W.cell? ⟨P, 0, none⟩ = some (.string ⟨p.1.toArray⟩) /\ W.cell? ⟨P, 1, none⟩ = some (.string ⟨p.2.toArray⟩))) (by kernel_rfl) tS (fun hHeld => ?_)
 generalize hW3 : World.drew w2 = W3 at hHeld ⊢
 have HB := Lib.hid (show aN W3 (ai W3 d) a x F (.slice A n c) (.slice (some ⟨bk, ok, none⟩) nk ck) ak H /\ Below w2.heap.size w2 W3 from hW3 ▸ ⟨aN.below (d := d + 1) HA.out.1 (Below.refl _ _).drew, (Below.refl _ _).drew⟩)
 clear hW3 tS
 refine aO [0, 1, 2, 3, 4, 5, 6, 7, 8] ?_
 iterate 9 (refine cI (v := ?_) (fun wS hSw => ?_) hHeld ?_; rotate_left; (obtain ⟨s0, s1, s2, s3⟩ := hSw; go_simp; try with_reducible rfl); try simp only [av, ax, ay, az])
 refine aP ?_
 refine bg 9 (fun K hK => ?_)
 go_simp
 refine (HW.out.2.2.2.1 W3 l _ k (H (i + 3)) (HB.out.1.2.2.2.2.2.1 i l k HA.out.2.2.2.2.2.1 HA.out.2.2.2.2.1) (fun b q hh => Nat.lt_of_lt_of_le (HA.out.2.2.1 b q (HA.out.1.own.1 _ b q hh)) HB.out.2.size) (HW.out.1.2.2.2 k (List.mem_of_getElem? HA.out.2.2.2.2.1)) (Up.kid HW.out.1.kids (by have h := HW.out.2.1; rwa [<- cN x] at h) HA.out.2.2.2.2.1)).mono ?_
 rintro e wn ⟨rfl, I9, how⟩
 have HK := Lib.hid (And.intro I9 how)
 clear I9 how
 obtain ⟨s0, hs0⟩ : ∃ s, (⟨((look p.1 (aS d k)).getD []).toArray⟩ : ByteArray) = s := ⟨_, rfl⟩
 obtain ⟨b0, hb0⟩ : ∃ b, (look p.1 (aS d k)).isSome = b := ⟨_, rfl⟩
 rw [hs0, hb0]
 have HR := Lib.hid (And.intro hs0 hb0)
 clear hs0 hb0
 try go_simp
 refine hK.out _ _ (qN hHeld HK.out.2 (HA.out.1.own.2.1 0 (i + 3) a 1 (by omega) (HA.out.1.2.1 1)) (HA.out.1.own.2.1 2 (i + 3) bk (ok + i) (by omega) HA.out.2.2.2.2.2.2.2.1) (fun hh => HA.out.2.2.2.1 0 (HA.out.1.own.1 _ _ _ hh)) (fun hh => HA.out.2.2.2.1 1 (HA.out.1.own.1 _ _ _ hh))) (fun ae => ?_)
 clear hK K hHeld 
 have hHeld := ae
 clear ae
 try simp only [av, ax, ay, az]
 refine aO [10, 11, 12, 13, 14] ?_
 iterate 5 (refine cI (v := ?_) (fun wS hSw => ?_) hHeld ?_; rotate_left; (obtain ⟨s0, s1, s2, s3⟩ := hSw; go_simp; try with_reducible rfl); try simp only [av, ax, ay, az])
 refine aP ?_
 refine wpAnyH_done (by kernel_rfl) ?_ _
 obtain ⟨z1, r2, -, -⟩ := hHeld
 have hres := HB.out.1.Bf (fun b q hh => Nat.lt_of_lt_of_le (HA.out.2.2.1 b q hh) HB.out.2.size) HA.out.2.2.2.2.1 HA.out.2.2.2.2.2.1 HK.out.2 HK.out.1
 have hput := mW HW.out.2.2.2.2 p (HW.out.1.2.2.2 k (List.mem_of_getElem? HA.out.2.2.2.2.1)) (Up.kid HW.out.1.kids (by have h := HW.out.2.1; rwa [<- cN x] at h) HA.out.2.2.2.2.1)
 obtain ⟨Qb, Qc, xC, H3, g1, -, g3, -⟩ := HK.out.1.base
 obtain ⟨A3, c3, e3, -⟩ := g3.slice
 rw [List.length_map] at e3
 subst e3
 obtain ⟨n3, jx⟩ : ∃ y, (fB d k p o).ps.length = y := ⟨_, rfl⟩
 rw [jx] at g1
 have EE := hput.2.len.2
 rw [jx] at EE
 obtain ⟨⟨z3, -⟩, -, -⟩ := af g1
 have kO : look p.1 (aS (d + 1) x) = look p.1 (aS d k) := by rw [<- cN x]; exact uq HW.out.1.kids (by have h := HW.out.2.1; rwa [<- cN x] at h) HW.out.2.2.1 (by rw [HI.out]; exact HA.out.2.2.2.2.1)
 have hN := AQ (d := d) (o := o) (ps := x.ps) (ks := x.ks) (k := k) HW.out.2.2.1 (by rw [HI.out]; exact HA.out.2.2.2.2.1)
 rw [cN, HI.out, jx] at hN
 have zi := Lib.hid (And.intro hres (And.intro hput (And.intro jx (And.intro kO hN))))
 clear hres hput g1 g3 jx kO hN
 have io : (2 : Int) <= (o : Int) := by have := HW.out.2.2.2.2; omega
 have R4 : (o : Int) <= 16 := by omega
 by_cases ek : 2 * o - 1 < n3
 ·have i3 : 2 * (o : Int) - 1 < (n3 : Int) := by omega
  have uG := Lib.hid ek
  clear ek
  go_wp2_with fail
  have hsz : w.heap.size <= W3.heap.size := Nat.le_trans HA.out.2.1.size HB.out.2.size
  have hil := HA.out.2.2.2.2.2.2.2.2.1
  have jG := HW.out.1.kids
  have I7 := HW.out.1.len.2
  refine (qM wn d a i o _ (fB d k p o) _ zi.out.1.1.bound (fun b q hh => hh.2) (MF hil _) (by show i <= x.ps.length; omega) (by show x.ps.length <= 1000; omega) (by show (x.ks.take i ++ fB d k p o :: x.ks.drop (i + 1)).length <= 1000; simp; omega) (by rw [zi.out.2.2.1]; have := uG.out; omega) (fun hd => ?_) HW.out.2.2.2.2 fq).mono ?_
  ·obtain ⟨d1, rfl⟩ : ∃ d1, d = d1 + 1 := ⟨d - 1, by omega⟩
   rw [zi.out.2.1.2.kids, zi.out.2.2.1]
   have := uG.out
   omega
  rintro e w5 ⟨rfl, EF, nv⟩
  have H5 := Lib.hid (And.intro EF nv)
  clear EF nv
  go_wp2_with fail
  go_ret2
  obtain ⟨hres, hput, jx, kO, hN⟩ := zi.out
  rw [if_pos uG.out] at hN
  rw [hN]
  refine ⟨by rw [<- HR.out.1, <- HR.out.2, <- kO]; rfl, H5.out.1.mono (fun b q hh => ?_), ((OnlyC.of_below (HA.out.2.1.trans (HB.out.2.mono HA.out.2.1.size)) F).trans hres.2 (fun _ _ _ h => h)).trans H5.out.2 (fun b q hb hh => hh.1.elim id (fun h => by omega))⟩
  rcases hh with hh | hh
  ·exact hh.1.imp id (fun h => Nat.le_trans hsz h)
  ·exact .inr (Nat.le_trans hsz (Nat.le_trans HK.out.2.size hh))
 ·have i3 : ¬ 2 * (o : Int) - 1 < (n3 : Int) := by omega
  have uG := Lib.hid ek
  clear ek
  go_wp2_with fail
  go_ret2
  obtain ⟨hres, hput, jx, kO, hN⟩ := zi.out
  rw [if_neg uG.out] at hN
  rw [hN]
  exact ⟨by rw [<- HR.out.1, <- HR.out.2, <- kO]; rfl, hres.1.mono (fun b q hh => hh.imp id (fun h => Nat.le_trans HA.out.2.1.size (Nat.le_trans HB.out.2.size h))), ((OnlyC.of_below (HA.out.2.1.trans (HB.out.2.mono HA.out.2.1.size)) F).trans hres.2 (fun _ _ _ h => h))⟩
theorem EG {o : Nat} (ho : 2 <= o) (fq : o <= 16) (p : Pr) : ∀ d, I8 d o p
 | 0 => fun w a lo x F h hF hwf hu => by
  have hks := hwf.none
  have hup := qF hwf hu
  have hlen : x.ps.length <= 1000 := by have := hwf.len; omega
  by_cases hh : hit p.1 x.ps = true
  ·obtain ⟨v, hv⟩ := eG hh
   have := Bp w 0 a o x F p v h hF hup hlen hh hv
   rw [hks] at this
   have e : fB 0 x p o = .mk (x.ps.take (posOf p.1 x.ps) ++ p :: x.ps.drop (posOf p.1 x.ps + 1)) [] := by
    show ND.mk (uj x.ps p) [] = _
    unfold uj
    rw [if_pos hh]
   rw [e, show look p.1 (aS 0 x) = some v from om hv]
   exact this
  ·simp only [Bool.not_eq_true] at hh
   have := ED w a o x F p h hF hup hlen hh
   have e : fB 0 x p o = .mk (x.ps.take (posOf p.1 x.ps) ++ p :: x.ps.drop (posOf p.1 x.ps)) [] := by
    show ND.mk (uj x.ps p) [] = _
    unfold uj
    rw [if_neg (by simp [hh])]
   rw [e, show look p.1 (aS 0 x) = none from wJ hh]
   exact this
 | d + 1 => fun w a lo x F h hF hwf hu => by
  have hup := qF hwf hu
  have hlen : x.ps.length <= 1000 := by have := hwf.len; omega
  by_cases hh : hit p.1 x.ps = true
  ·obtain ⟨v, hv⟩ := eG hh
   have := Bp w (d + 1) a o x F p v h hF hup hlen hh hv
   have e := wm (d := d) (o := o) (ps := x.ps) (ks := x.ks) hh
   rw [cN] at e
   rw [e]
   have e2 : look p.1 (aS (d + 1) x) = some v := by
    rw [<- cN x] at hu ⊢
    exact qq hwf.kids hu hh hv
   rw [e2]
   exact this
  ·simp only [Bool.not_eq_true] at hh
   exact Kc w d a o lo x F p (EG ho fq p d) ho fq h hF hwf hu hh
end Go.Proofs.YtagemonojdgbdaaGreatDoor
