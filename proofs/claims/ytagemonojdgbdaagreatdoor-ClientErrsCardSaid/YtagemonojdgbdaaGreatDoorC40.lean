import Derived.Test.YtagemonojdgbdaaGreatDoorC39
import Derived.Laws.IdiomCopy
import Derived.Laws.Rows
import Derived.Shelf.Spec.SlicesInsert
namespace Go.Proofs.YtagemonojdgbdaaGreatDoor
set_option maxRecDepth 100000
open Go.RowKit
def fillR (f : Nat → Int) : Nat → List Int → Nat → Int
 | _, [] => f
 | i, x :: l => fillR (updR f i x) (i + 1) l
theorem setRegs (M : Nat) : ∀ (l : List Int) (i : Nat) (w : World) (s : MS), MachAt w M s → i + l.length ≤ 8 → MachAt (w.setCells M (18 + i) (l.map (Value.int .i64))) M { s with reg := fillR s.reg i l } ∧ Only (fun k => k = M) w (w.setCells M (18 + i) (l.map (Value.int .i64)))
 | [], _, w, _, h, _ => ⟨h, Only.refl _ w⟩
 | x :: l, i, w, s, h, hl => by
  have h1 := h.setReg (i := i) (by simp at hl; omega) x
  have h2 := setRegs M l (i + 1) _ _ h1 (by simp at hl; omega)
  exact ⟨h2.1, (only1 w M (18 + i) _).trans h2.2 (fun _ _ h => h)⟩
theorem copyRegs {w : World} {F : Nat → Prop} {M : Nat} {s : MS} {v : Value} {l : List Int} (h : MachAt w M s) (hv : Rd w F v (l.map (Value.int .i64))) (hl : l.length ≤ 8) (ty : TypeId) :
  (Builtin.copy_ #[51, 51] ty #[.slice (some ⟨M, 18, none⟩) 8 8, v]).run Tryz.prog w = .ok (.int .i64 l.length) (w.setCells M 18 (l.map (Value.int .i64))) := by
 obtain ⟨A, n, c, rfl, hn, hnc, hcm, hx⟩ := hv
 have hn' : l.length = n := by simpa using hn
 subst hn'
 have hsz : (Tryz.prog.info? 3).map (·.size) = some 1 := by kernel_rfl
 by_cases h0 : l.length = 0
 ·have hl0 : l = [] := List.eq_nil_of_length_eq_zero h0
  subst hl0
  exact run_copy_none w _ _ _ 3 _ _ _ _ _ _ Tryz.underlying51 hsz (by simp)
 ·obtain ⟨b, o, rfl, _, hc⟩ := hx (by omega)
  have := run_copy_cells (P := Tryz.prog) w 51 51 ty 3 M 18 8 8 ⟨b, o, none⟩ l.length c (l.map (Value.int .i64)) Tryz.underlying51 hsz (by simp [Nat.min_def]; omega)
   (fun j u hj => by rw [Addr.add_lit]; exact hc j u hj) (fun j hj => by rw [h.reg (i := j) (by simp at hj; omega)]; rfl) (fun j _ => h.free _) (fun u hu => by
    obtain ⟨x, _, rfl⟩ := List.mem_map.1 hu
    rfl)
  simpa [goInt] using this
theorem clamp_ok (w : World) (n : Int) : Calls Tryz.prog 34 #[.int .i64 n] w fun e w' => e = .returned (.int .i64 (max (-1099511627776) (min n 1099511627776))) ∧ w = w' := by
 go_enter Tryz.func34, Tryz.ntmps34
 go_wp2_with fail
 go_ret
 exact ⟨rfl, rfl⟩
def actsV : Array Value := #[.nilFunc, fnV 99, fnV 100, fnV 101, fnV 102, fnV 103, fnV 104, fnV 105, fnV 106, fnV 107, fnV 108, fnV 109, fnV 110, fnV 111, fnV 112, fnV 113]
theorem acts_ok (w : World) : Calls Tryz.prog 65 #[] w fun e w' => e = .returned (.agg actsV) ∧ Below w.heap.size w w' := by
 go_enter Tryz.func65, Tryz.ntmps65
 go_wp2_with fail
 exact bodyPost_ret (results_cell_row rfl _ _ _ _ _ _ _ rfl (heap_alloc_new _ _) Tryz.underlying165 rfl (by kernel_rfl)) rfl ⟨rfl, one_new _ _⟩
theorem put4s {w : World} {B : Nat} {a0 a1 a2 a3 v0 v1 v2 v3 : Value} {t : TypeId} (h : w.heap[B]? = some (.cells #[a0, a1, a2, a3] t (0, 0))) :
  ((((w.setCell ⟨B, 0, none⟩ v0).setCell ⟨B, 1, none⟩ v1).setCell ⟨B, 2, none⟩ v2).setCell ⟨B, 3, none⟩ v3).heap[B]? = some (.cells #[v0, v1, v2, v3] t (0, 0)) := put4r h
def RunR {R : Type} (K : (Nat → Prop) → R → World → Prop) (T : Nat → Prop) (p : PS R × Int) (w : World) (e : Ending) (w' : World) : Prop :=
 ∃ f, e = .returned (.tuple #[.agg #[.int .i64 (if p.2 = 0 then p.1.reg 0 else p.1.value), .int .i64 p.1.steps, f, .int .i64 p.2], .int .i64 0]) ∧ ClRd w' (fun k => ¬ T k) f (normF p.1.cl) ∧ (normF p.1.cl).length ≤ 64 ∧ Good p.1.cl ∧ K (fun _ => False) p.1.rows w' ∧ Only T w w'
def startP {R : Type} (args : List Int) (r : R) : PS R := ⟨0, fillR (fun _ => 0) 0 args, 0, [], 0, r⟩
theorem fillR_ok : ∀ (l : List Int) (i : Nat) (f : Nat → Int), (∀ j, RegOk (f j)) → (∀ n ∈ l, RegOk n) → ∀ j, RegOk (fillR f i l j)
 | [], _, _, h, _, j => h j
 | x :: l, i, f, h, hl, j => fillR_ok l (i + 1) _ (fun k => by
   unfold updR
   split
   ·exact hl x (by simp)
   ·exact h k) (fun n hn => hl n (by simp [hn])) j
theorem startP_fit {R : Type} {args : List Int} (r : R) (h : ∀ n ∈ args, RegOk n) : (startP args r).Fit :=
 ⟨fillR_ok args 0 _ (fun _ => ⟨by decide, by decide⟩) h, ⟨Int.le_refl _, by show (0 : Int) ≤ 10000; decide⟩, Int.le_refl _, by show (0 : Int) ≤ 1000; decide⟩
set_option maxHeartbeats 4000000 in
theorem run_ok {R : Type} {K : (Nat → Prop) → R → World → Prop} {T F : Nat → Prop} {act : POp → PS R → PS R × Int} (w : World) (l : List POp) (opsV argsV : Value) (args : List Int) (bB : Nat) (fuel : Int) (may : Value) (ok : Cl → Bool) (r0 : R)
  (hops : OpRd w (fun k => ¬ T k) opsV l) (he : opsE l = 0) (hs : ShTab w) (hargs : Rd w F argsV (args.map (Value.int .i64))) (hal : args.length ≤ 8) (har : ∀ n ∈ args, -1099511627776 ≤ n ∧ n ≤ 1099511627776)
  (hfuel : 0 ≤ fuel ∧ fuel ≤ 10000) (hmay : MayAt w T may ok) (hK0 : K (fun _ => False) r0 w) (hK : KOk K) (hT : ∀ k, T k → k < w.heap.size)
  (hact : ∀ c : RC, c.Fit → c.ops = l → c.b = .pointer (some ⟨bB, 0, none⟩) → c.fuel = fuel → c.may = may → c.ok = ok → w.heap.size ≤ c.lo → (∀ k, T k → c.W k) → (∀ k, c.S k → T k ∨ w.heap.size ≤ k) → ActsOk c K act 0 l.length) :
  Calls Tryz.prog 36 #[opsV, argsV, .pointer (some ⟨bB, 0, none⟩), .int .i64 fuel, may] w (RunR K T (blockP fuel l act l.length l.length (startP args r0)) w) := by
 obtain ⟨A, c, rfl, hlc, hcm⟩ := hops.slice
 obtain ⟨A1, n1, c1, rfl, hn1, hnc1, hcm1, hx1⟩ := id hargs
 have hn1' : args.length = n1 := by simpa using hn1
 subst hn1'
 unfold maxLen at hcm hcm1
 obtain ⟨mq, rfl⟩ : ∃ mq, may = .pointer mq := by
  rcases hmay with ⟨h, _⟩ | ⟨B, _, _, h, _⟩
  ·exact ⟨_, h⟩
  ·exact ⟨_, h⟩
 have hb0 := one_new w (.cells #[.int .i64 0, .int .i64 0, .slice none 0 0, .int .i64 0] 89)
 have k0 := heap_alloc_new w (.cells #[.int .i64 0, .int .i64 0, .slice none 0 0, .int .i64 0] 89)
 have hl64 : l.length ≤ 64 := by
  unfold opsE at he
  split at he
  ·cases he
  ·omega
 have H := Lib.hid (And.intro hops (And.intro he (And.intro hs (And.intro hargs (And.intro har (And.intro hmay (And.intro hK0 (And.intro hK (And.intro hT hact)))))))))
 clear hops he hs hargs har hmay hK0 hK hT hact hx1 hn1
 go_enter Tryz.func36, Tryz.ntmps36
 go_upto_region 1 with fail
 generalize w.alloc (.cells #[.int .i64 0, .int .i64 0, .slice none 0 0, .int .i64 0] 89) = w1 at hb0 k0 ⊢
 obtain ⟨R0, hR0⟩ : ∃ x, w.heap.size = x := ⟨_, rfl⟩
 rw [hR0] at k0 ⊢
 have HR0 := Lib.hid (And.intro hR0 (And.intro hb0 k0))
 have HP := Lib.hid (pcheck_ok w1 _ _ l (RdK.below H.out.1 hb0) (H.out.2.2.1.below hb0))
 rw [H.out.2.1] at HP
 clear hR0 hb0 k0
 go_wp2_with fail
 refine HP.out.mono ?_
 rintro e w2 ⟨rfl, hb2⟩
 have hb12 := HR0.out.2.1.trans (hb2.mono HR0.out.2.1.size)
 have k2 := (Only.of_below hb2 (fun _ => False)).heap HR0.out.2.2 (fun h => h)
 have HB2 := Lib.hid (And.intro hb12 k2)
 clear hb2 hb12 k2 HP
 have hcond : ¬ (8 : Int) < (args.length : Int) := by omega
 go_wp2_with fail
 go_loop [31] (fun i => ∃ k : Nat, k ≤ args.length ∧ i = .int .i64 (k : Int)) (fun i => args.length - (intOf i).toNat)
 case atStart => exact ⟨0, Nat.zero_le _, rfl⟩
 case round =>
  obtain ⟨k, hk, rfl⟩ := hrel
  by_cases hlt : k < args.length
  ·obtain ⟨n, hn⟩ : ∃ n, args[k]? = some n := ⟨_, List.getElem?_eq_getElem hlt⟩
   have hrd := H.out.2.2.2.1.below HB2.out.1
   obtain ⟨A', n', c', hv, _, _, _, hx⟩ := hrd
   injection hv with e1 e2 e3
   subst e1 e2 e3
   obtain ⟨b, o, rfl, _, hc⟩ := hx (by omega)
   have hcell := hc k (.int .i64 n) (by simp [hn])
   have hnr := H.out.2.2.2.2.1 n (List.mem_of_getElem? hn)
   have hcl : max (-1099511627776) (min n 1099511627776) = n := by omega
   have HCl := Lib.hid (clamp_ok w2 n)
   rw [hcl] at HCl
   have i1 : (0 : Int) ≤ (k : Int) := by omega
   have i2 : (k : Int) < (args.length : Int) := by omega
   clear hx hc hn hnr hcl
   go_wp2_with fail
   refine HCl.out.mono ?_
   rintro e w3 ⟨rfl, rfl⟩
   go_wp2_with fail
   go_round
   case rel => exact ⟨k + 1, by omega, by go_num⟩
   case measure => simp [intOf]; omega
  ·have hke : k = args.length := by omega
   have hf1 : ¬ fuel < 0 := by omega
   have hf2 : ¬ (10000 : Int) < fuel := by omega
   go_wp2_with fail
   refine (acts_ok w2).mono ?_
   rintro e w3 ⟨rfl, hb3⟩
   unfold actsV
   have hb13 := HB2.out.1.trans (hb3.mono HB2.out.1.size)
   have k3 := (Only.of_below hb3 (fun _ => False)).heap HB2.out.2 (fun h => h)
   have hm4 : MachAt (w3.alloc (.cells (MS.cells ⟨.slice A l.length c, 0, fun _ => 0, .pointer (some ⟨bB, 0, none⟩), fuel, .pointer mq, 0, 0, .slice none 0 0, 0⟩) 169)) w3.heap.size ⟨.slice A l.length c, 0, fun _ => 0, .pointer (some ⟨bB, 0, none⟩), fuel, .pointer mq, 0, 0, .slice none 0 0, 0⟩ := heap_alloc_new _ _
   have hb4 := one_new w3 (.cells (MS.cells ⟨.slice A l.length c, 0, fun _ => 0, .pointer (some ⟨bB, 0, none⟩), fuel, .pointer mq, 0, 0, .slice none 0 0, 0⟩) 169)
   have H4 := Lib.hid (And.intro hm4 (And.intro (hb13.trans (hb4.mono hb13.size)) (And.intro ((Only.of_below hb4 (fun _ => False)).heap k3 (fun h => h)) (And.intro hb13.size (lt_heap k3)))))
   clear hb3 hb13 k3 hm4 hb4 hf1 hf2 hcond
   unfold MS.cells fnV at H4
   simp only at H4
   unfold fnV
   go_upto_region 17 with fail
   generalize w3.alloc (.cells #[.slice A l.length c, .nilFunc, .func (.func 99) #[] #[], .func (.func 100) #[] #[], .func (.func 101) #[] #[], .func (.func 102) #[] #[], .func (.func 103) #[] #[], .func (.func 104) #[] #[], .func (.func 105) #[] #[], .func (.func 106) #[] #[], .func (.func 107) #[] #[], .func (.func 108) #[] #[], .func (.func 109) #[] #[], .func (.func 110) #[] #[], .func (.func 111) #[] #[], .func (.func 112) #[] #[], .func (.func 113) #[] #[], .int .i64 0, .int .i64 0, .int .i64 0, .int .i64 0, .int .i64 0, .int .i64 0, .int .i64 0, .int .i64 0, .int .i64 0, .pointer (some ⟨bB, 0, none⟩), .int .i64 fuel, .pointer mq, .int .i64 0, .int .i64 0, .slice none 0 0, .int .i64 0] 169) = w4 at H4 ⊢
   obtain ⟨M, hM⟩ : ∃ M, w3.heap.size = M := ⟨_, rfl⟩
   rw [hM] at H4 ⊢
   clear hM
   have hR0 := HR0.out.1
   have hcp := copyRegs (l := args) (F := F) (v := .slice A1 args.length c1) H4.out.1 (H.out.2.2.2.1.below H4.out.2.1) hal 3
   have hset := setRegs M args 0 w4 _ H4.out.1 (by omega)
   have H5 := Lib.hid (And.intro hcp hset)
   clear hcp hset
   go_wp2_with fail
   rw [H5.out.1]
   have H6 := Lib.hid H5.out.2
   clear H5
   generalize w4.setCells M 18 (args.map (Value.int .i64)) = w5 at H6 ⊢
   have hMR : R0 < M := by have := H4.out.2.2.2.2; omega
   have hMl : M < w5.heap.size := H6.out.1.lt
   obtain ⟨cc, hcc⟩ : ∃ cc : RC, cc = ⟨M, fun k => T k ∨ k = R0 ∨ k = M, fun k => T k ∨ k = M, fun k => (False ∨ k = R0) ∨ k = M, l, .slice A l.length c, .pointer (some ⟨bB, 0, none⟩), fuel, .pointer mq, ok, w.heap.size⟩ := ⟨_, rfl⟩
   have hfit : cc.Fit := by subst hcc; exact ⟨.inr (.inr rfl), .inr rfl, fun k hk => hk.elim .inl (fun h => .inr (.inr h)), .inr rfl, fun k hk => hk.elim (fun h => h.elim (fun h => h.elim) (fun h => .inr (.inl h))) (fun h => .inr (.inr h)), by show w.heap.size ≤ M; omega, hl64, hfuel⟩
   have hT := H.out.2.2.2.2.2.2.2.2.1
   have hF : ∀ k, (¬ T k ∧ k < w.heap.size) → ¬ cc.S k := by
    subst hcc
    rintro k ⟨h1, h2⟩ (h | h | h)
    ·exact h1 h
    ·omega
    ·omega
   have hO45 : Only (fun k => k = M) w4 w5 := H6.out.2
   have hB4 : Below w.heap.size w w4 := H4.out.2.1
   have hO5 : Only (fun k => k = M) w w5 := (Only.of_below hB4 _).trans hO45 (fun _ _ h => h)
   have hK := H.out.2.2.2.2.2.2.2.1
   have hK5 : K (fun k => (False ∨ k = R0) ∨ k = M) r0 w5 := hK.only _ r0 w w5 (fun k => k = M) (fun k hk => .inr hk) (hK.lend _ _ _ _ (hK.lend _ _ _ _ H.out.2.2.2.2.2.2.1 (by omega)) (by omega)) hO5
   have hMS : ∀ k, k = M → cc.S k := by subst hcc; intro k hk; exact .inr (.inr hk)
   have hI : MI cc K w5 (startP args r0) := by
    refine ⟨.slice none 0 0, ?_, ⟨by rw [show (startP args r0).cl = [] from rfl, normF_nil]; exact RdK.nil _ _ _, by rw [show (startP args r0).cl = [] from rfl, normF_nil]; decide, fun x hx => by cases hx⟩, ?_, ?_, (by subst hcc; exact hK5), ?_, startP_fit r0 (fun n hn => by have := H.out.2.2.2.2.1 n hn; exact ⟨by omega, by omega⟩)⟩
    ·subst hcc; exact H6.out.1
    ·rcases H.out.2.2.2.2.2.1 with ⟨h1, h2⟩ | ⟨B, fv, f, h1, h2, h3, h4, h5⟩
     ·subst hcc; exact .inl ⟨h1, h2⟩
     ·have hBl := World.block_lt_of_cell? _ _ h3
      refine .inr ⟨B, fv, f, by subst hcc; exact h1, hF B ⟨h2, hBl⟩, hO5.cell h3 (fun e => by have e' : B = M := e; have hBl' : B < w.heap.size := hBl; omega), RdK.only (RdK.mono (RdK.bound h4 (cl_len _) (by decide)) hF) hO5 (fun k hk e => hk (hMS k e)), by subst hcc; exact h5⟩
    ·subst hcc
     exact RdK.only (RdK.mono (RdK.bound H.out.1 (fun x hx => by obtain ⟨y, _, rfl⟩ := List.mem_map.1 hx; rfl) (by decide)) hF) hO5 (fun k hk e => hk (hMS k e))
    ·subst hcc
     rintro k (h | h | h)
     ·have := hT k h; have := hO5.size; omega
     ·omega
     ·omega
   have hacts : ActsOk cc K act 0 l.length := by
    subst hcc
    exact H.out.2.2.2.2.2.2.2.2.2 _ hfit rfl rfl rfl rfl rfl (Nat.le_refl _) (fun k hk => .inl hk) (fun k hk => hk.elim .inl (fun h => .inr (by omega)))
   have hKc : KOk K := hK
   have hblk := block_ok hfit hKc hI 0 l.length (Nat.zero_le _) (by subst hcc; exact Nat.le_refl _) hacts
   have hk5 := (hO45.heap H4.out.2.2.1 (by omega))
   have HB := Lib.hid hblk
   have HZ := Lib.hid (And.intro hcc (And.intro hfit (And.intro hK5 (And.intro hO5 (And.intro hk5 hT)))))
   have hcM : cc.M = M := by subst hcc; rfl
   rw [hcM] at HB
   clear hI hK5 hO5 hMS hK hB4 hO45 hF hT hfit hcc hacts hKc hblk hk5 hMl
   go_wp2_with fail
   obtain ⟨s6, n, hp⟩ : ∃ s6 n, blockP fuel l act l.length l.length (startP args r0) = (s6, n) := ⟨_, _, rfl⟩
   have hbe : blockP cc.fuel cc.ops act (l.length : Int) (l.length - 0) { (startP args r0) with pc := ((0 : Nat) : Int) } = (s6, n) := by rw [HZ.out.1]; exact hp
   rw [hbe] at HB
   have HP := Lib.hid hp
   clear hp hbe
   refine HB.out.mono ?_
   rintro e w6 ⟨rfl, hI6, ho6⟩
   have hT := HZ.out.2.2.2.2.2
   have hRW : ¬ cc.W R0 := by
    rw [HZ.out.1]
    rintro (h | h)
    ·have := hT R0 h; omega
    ·omega
   have k6 := ho6.heap HZ.out.2.2.2.2.1 hRW
   obtain ⟨f6, m6, hf6, _, _, hK6, _, _⟩ := hI6
   obtain ⟨A6, c6, rfl, hn6, hc6⟩ := hf6.1.slice
   rw [hcM] at m6
   obtain ⟨N6, hN6⟩ : ∃ N, (normF s6.cl).length = N := ⟨_, rfl⟩
   have hO6 : Only T w w6 := by
    have h1 : Only cc.W w w6 := (HZ.out.2.2.2.1.mono (fun k _ hk => by rw [HZ.out.1]; exact .inr hk)).trans ho6 (fun _ _ h => h)
    refine h1.mono (fun k hk h => ?_)
    rw [HZ.out.1] at h
    rcases h with h | h
    ·exact h
    ·omega
   have HEND := Lib.hid (show ∀ (e : Ending) (w9 : World), Only (fun k => k = M ∨ k = R0) w6 w9 → blockP fuel l act l.length l.length (startP args r0) = (s6, n) → e = .returned (.tuple #[.agg #[.int .i64 (if n = 0 then s6.reg 0 else s6.value), .int .i64 s6.steps, .slice A6 N6 c6, .int .i64 n], .int .i64 0]) → RunR K T (blockP fuel l act l.length l.length (startP args r0)) w e w9 from fun e w9 hW hp he => by
    rw [hp]
    have hS : ∀ k, (k = M ∨ k = R0) → cc.S k := by
     rw [HZ.out.1]
     rintro k (h | h)
     ·exact .inr (.inr h)
     ·exact .inr (.inl h)
    have hf9 := hf6.only hW hS
    rw [← hN6] at he
    refine ⟨_, he, RdK.mono hf9.1 (fun k hk h => hk (by rw [HZ.out.1]; exact .inl h)), hf9.2.1, hf9.2.2, ?_, hO6.trans hW (fun k hk h => by omega)⟩
    exact H.out.2.2.2.2.2.2.2.1.back _ _ _ _ (fun k hk => hk.elim) (H.out.2.2.2.2.2.2.2.1.only (fun k => (False ∨ k = R0) ∨ k = M) _ _ _ _ (fun k hk => hk.elim .inr (fun h => .inl (.inr h))) (by rw [HZ.out.1] at hK6; exact hK6) hW))
   have HK6 := Lib.hid k6
   have HN6 := Lib.hid hN6
   have HM6 := Lib.hid m6
   have c32 := m6.e
   have f32 := m6.free 32
   simp only [RC.ms] at c32
   clear hK6 hO6 hf6 hRW ho6 hT k6 m6
   go_upto_region 19 with fail
   have m7 := HM6.out.setE n
   have k7 := (only1 w6 M 32 (.int .i64 n)).heap HK6.out (by omega)
   have hO7 := only1 w6 M 32 (.int .i64 n)
   clear c32 f32
   generalize w6.setCell ⟨M, 32, none⟩ (.int .i64 n) = w7 at m7 k7 hO7 ⊢
   have c32 := m7.e
   simp only at c32
   by_cases hn : n = 0
   ·subst hn
    have c18 := m7.reg (i := 0) (by decide)
    have f29 := m7.free 29
    have c29 := m7.value
    simp only [RC.ms] at c18 c29
    have H7 := Lib.hid (And.intro m7 (And.intro k7 hO7))
    clear m7 k7 hO7
    go_upto_region 21 with fail
    have m8 := H7.out.1.setValue (s6.reg 0)
    have k8 := (only1 w7 M 29 (.int .i64 (s6.reg 0))).heap H7.out.2.1 (by omega)
    have hO8 := H7.out.2.2.trans (only1 w7 M 29 (.int .i64 (s6.reg 0))) (fun _ _ h => h)
    clear c32 c18 f29 c29
    generalize w7.setCell ⟨M, 29, none⟩ (.int .i64 (s6.reg 0)) = w8 at m8 k8 hO8 ⊢
    obtain ⟨⟨z0, z1, z2, z3⟩, y0, y1, y2, y3⟩ := blk4z k8
    have v29 := m8.value
    have v30 := m8.steps
    have v31 := m8.foot
    have v32 := m8.e
    simp only [RC.ms] at v29 v30 v31 v32
    rw [hN6] at v31
    have H9 := Lib.hid hO8
    have K9 := Lib.hid k8
    clear m8 k8 hO8
    go_wp2_with fail
    have hpq := put4s (v0 := .int .i64 (s6.reg 0)) (v1 := .int .i64 s6.steps) (v2 := .slice A6 N6 c6) (v3 := .int .i64 0) K9.out
    have ho := (((only1 w8 R0 0 (.int .i64 (s6.reg 0))).setCell (p := ⟨R0, 1, none⟩) (fun _ => rfl) (.int .i64 s6.steps)).setCell (p := ⟨R0, 2, none⟩) (fun _ => rfl) (.slice A6 N6 c6)).setCell (p := ⟨R0, 3, none⟩) (fun _ => rfl) (.int .i64 0)
    have HO := Lib.hid (And.intro hpq ho)
    clear hpq ho
    generalize ((((w8.setCell ⟨R0, 0, none⟩ (.int .i64 (s6.reg 0))).setCell ⟨R0, 1, none⟩ (.int .i64 s6.steps)).setCell ⟨R0, 2, none⟩ (.slice A6 N6 c6)).setCell ⟨R0, 3, none⟩ (.int .i64 0)) = w9 at HO ⊢
    have hW : Only (fun k => k = M ∨ k = R0) w6 w9 := (H9.out.mono (fun _ _ h => .inl h)).trans (HO.out.2.mono (fun _ _ h => .inr h)) (fun _ _ h => h)
    refine bodyPost_ret (results_cell_row2 rfl _ _ _ _ _ _ _ rfl HO.out.1 Tryz.underlying89 rfl (by kernel_rfl)) rfl ?_
    exact HEND.out _ _ hW HP.out rfl
   ·have hn2 : (n == 0) = false := by simpa using hn
    have HNN := Lib.hid hn
    go_upto_region 21 with fail
    obtain ⟨w8, hw8⟩ : ∃ w8, w8 = w7 := ⟨_, rfl⟩
    rw [← hw8] at m7 k7 hO7 ⊢
    have m8 := m7
    have k8 := k7
    have hO8 := hO7
    clear c32 hn m7 k7 hO7 hw8
    obtain ⟨⟨z0, z1, z2, z3⟩, y0, y1, y2, y3⟩ := blk4z k8
    have v29 := m8.value
    have v30 := m8.steps
    have v31 := m8.foot
    have v32 := m8.e
    simp only [RC.ms] at v29 v30 v31 v32
    rw [hN6] at v31
    have H9 := Lib.hid hO8
    have K9 := Lib.hid k8
    clear m8 k8 hO8
    go_wp2_with fail
    have hpq := put4s (v0 := .int .i64 s6.value) (v1 := .int .i64 s6.steps) (v2 := .slice A6 N6 c6) (v3 := .int .i64 n) K9.out
    have ho := (((only1 w8 R0 0 (.int .i64 s6.value)).setCell (p := ⟨R0, 1, none⟩) (fun _ => rfl) (.int .i64 s6.steps)).setCell (p := ⟨R0, 2, none⟩) (fun _ => rfl) (.slice A6 N6 c6)).setCell (p := ⟨R0, 3, none⟩) (fun _ => rfl) (.int .i64 n)
    have HO := Lib.hid (And.intro hpq ho)
    clear hpq ho
    generalize ((((w8.setCell ⟨R0, 0, none⟩ (.int .i64 s6.value)).setCell ⟨R0, 1, none⟩ (.int .i64 s6.steps)).setCell ⟨R0, 2, none⟩ (.slice A6 N6 c6)).setCell ⟨R0, 3, none⟩ (.int .i64 n)) = w9 at HO ⊢
    have hW : Only (fun k => k = M ∨ k = R0) w6 w9 := (H9.out.mono (fun _ _ h => .inl h)).trans (HO.out.2.mono (fun _ _ h => .inr h)) (fun _ _ h => h)
    refine bodyPost_ret (results_cell_row2 rfl _ _ _ _ _ _ _ rfl HO.out.1 Tryz.underlying89 rfl (by kernel_rfl)) rfl ?_
    exact HEND.out _ _ hW HP.out (by rw [if_neg HNN.out]; rfl)
end Go.Proofs.YtagemonojdgbdaaGreatDoor
