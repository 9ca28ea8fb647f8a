import Derived.Test.YtagemonojdgbdaaGreatDoorC30
import Derived.Test.YtagemonojdgbdaaGreatDoorC43
namespace Go.Proofs.YtagemonojdgbdaaGreatDoor
set_option maxRecDepth 100000
open Go.RowKit
def EncS (w0 : World) (K : Nat → Prop) (b : Nat) (bs : List UInt8) (w : World) : Prop :=
 ∃ F, WrAt w F b bs ∧ (∀ k, F k → w0.heap.size ≤ k ∧ k < w.heap.size ∧ ¬ K k) ∧ Below w0.heap.size w0 w ∧ ∀ k, K k → k < w.heap.size
def Kept (K : Nat → Prop) (w w' : World) : Prop := ∀ k o, K k → w.heap[k]? = some o → w'.heap[k]? = some o
theorem Kept.cell {K : Nat → Prop} {w w' : World} (h : Kept K w w') {p : Addr} {v : Value} (hp : K p.block) (hc : w.cell? p = some v) : w'.cell? p = some v := cell_agree (F := K) (fun k o hk hb => h k o hk hb) hp hc
theorem WrAt.alloc {w : World} {F : Nat → Prop} {b : Nat} {bs : List UInt8} (h : WrAt w F b bs) (o : Obj) : WrAt (w.alloc o) F b bs := by
 obtain ⟨v, h1, h2, h3, h4⟩ := h
 exact ⟨v, by rw [Below.heap_alloc _ _ _ (Array.getElem?_eq_some_iff.1 h1).1]; exact h1, h2, h3.alloc _, h4⟩
theorem EncS.box {w0 w : World} {K : Nat → Prop} {b : Nat} {bs : List UInt8} (h : EncS w0 K b bs w) (o : Obj) : EncS w0 (fun k => K k ∨ k = w.heap.size) b bs (w.alloc o) := by
 obtain ⟨F, h1, h2, h3, h4⟩ := h
 refine ⟨F, h1.alloc o, fun k hk => ⟨(h2 k hk).1, by have := (h2 k hk).2.1; simp; omega, fun hh => hh.elim (h2 k hk).2.2 (fun e => by have := (h2 k hk).2.1; omega)⟩, h3.alloc h3.size o, fun k hk => ?_⟩
 rcases hk with hk | hk
 ·have := h4 k hk; simp; omega
 ·subst hk; simp
theorem EncS.less {w0 w : World} {K K' : Nat → Prop} {b : Nat} {bs : List UInt8} (h : EncS w0 K b bs w) (hK : ∀ k, K' k → K k) : EncS w0 K' b bs w := by
 obtain ⟨F, h1, h2, h3, h4⟩ := h
 exact ⟨F, h1, fun k hk => ⟨(h2 k hk).1, (h2 k hk).2.1, fun hh => (h2 k hk).2.2 (hK k hh)⟩, h3, fun k hk => h4 k (hK k hk)⟩
theorem EncS.bl {w0 w : World} {K : Nat → Prop} {b : Nat} {bs : List UInt8} (h : EncS w0 K b bs w) : Below w0.heap.size w0 w := let ⟨_, _, _, h3, _⟩ := h; h3
theorem EncS.onto {w0 w w' : World} {K F : Nat → Prop} {b : Nat} {bs' : List UInt8} (h2 : ∀ k, F k → w0.heap.size ≤ k ∧ k < w.heap.size ∧ ¬ K k) (h3 : Below w0.heap.size w0 w) (h4 : ∀ k, K k → k < w.heap.size) (hw : WrR w F b bs' w') : EncS w0 K b bs' w' ∧ Kept K w w' := by
 obtain ⟨ho, F', hw', hF'⟩ := hw
 have hF0 : ∀ k, F' k → (F k ∨ w.heap.size ≤ k) ∧ k < w'.heap.size ∨ F' k := fun k hk => .inr hk
 refine ⟨⟨fun k => F' k ∧ k < w'.heap.size, ?_, fun k hk => ?_, ?_, fun k hk => Nat.lt_of_lt_of_le (h4 k hk) ho.size⟩, fun k o hk hb => ho.heap hb (fun hF => (h2 k hF).2.2 hk)⟩
 ·obtain ⟨v, a1, a2, a3, a4⟩ := hw'
  exact ⟨v, a1, ⟨a2, (Array.getElem?_eq_some_iff.1 a1).1⟩, a3, fun g hg => ⟨a4 g hg, (a3.lt g hg).2⟩⟩
 ·refine ⟨?_, hk.2, fun hK => ?_⟩
  ·rcases hF' k hk.1 with h | h
   ·exact (h2 k h).1
   ·exact Nat.le_trans h3.size h
  ·rcases hF' k hk.1 with h | h
   ·exact (h2 k h).2.2 hK
   ·have := h4 k hK; omega
 ·exact h3.trans (ho.belowN h3.size (fun k hk hF => by have := (h2 k hF).1; omega))
theorem ivs_block {w : World} {g : Nat} {cs : Array Value} {t : TypeId} {ns : List Int} (h : w.heap[g]? = some (.cells cs t (0, 0))) (hc : cs = (ivs ns).toArray) (hl : ns.length ≤ maxLen) : Rd w (fun k => k = g) (.slice (some ⟨g, 0, none⟩) ns.length ns.length) (ivs ns) := by
 refine ⟨_, _, _, rfl, by simp [ivs], Nat.le_refl _, hl, fun _ => ⟨g, 0, rfl, rfl, fun j u hj => ?_⟩⟩
 subst hc
 simp only [Nat.zero_add, World.cell?, h]
 simpa using hj
theorem lit_uint {w0 w : World} {K : Nat → Prop} {b X : Nat} {bs : List UInt8} (h : EncS w0 K b bs w) (hX : w.cell? ⟨X, 0, none⟩ = some (.func (.func 78) #[.pointer (some ⟨b, 0, none⟩)] #[])) (hXK : K X) (ns : List Int) (cs : Array Value) (hc : cs = (ivs ns).toArray) (n : Nat) (hn : n = ns.length) (hl : ns.length ≤ 100)
  (hok : ∀ n ∈ ns, 0 ≤ n ∧ n ≤ 9223372036854775807) (hlen : bs.length ≤ 100000000) :
  Calls Tryz.prog 122 #[.slice (some ⟨w.heap.size, 0, none⟩) n n, .pointer (some ⟨X, 0, none⟩)] (w.alloc (.cells cs 3)) fun e w' => e = .returned (.tuple #[]) ∧ EncS w0 K b (bs ++ encU ns) w' ∧ Kept K w w' := by
 subst hn
 obtain ⟨F, h1, h2, h3, h4⟩ := h
 have hlt : w.heap.size < (w.alloc (.cells cs 3)).heap.size := by simp
 refine (each_uint _ F (fun k => k = w.heap.size) b X bs _ _ _ ns (h1.alloc _) (cell_alloc_any hX _) (fun hF => (h2 X hF).2.2 hXK) (ivs_block (heap_alloc_new _ _) hc (by simp [maxLen]; omega)) (fun k hk hF => by have := (h2 k hF).2.1; omega) hok (by omega)).mono ?_
 rintro e w' ⟨rfl, hw⟩
 obtain ⟨k1, k2⟩ := EncS.onto (K := K) (fun k hk => ⟨(h2 k hk).1, by have := (h2 k hk).2.1; omega, (h2 k hk).2.2⟩) (h3.alloc h3.size _) (fun k hk => by have := h4 k hk; omega) hw
 exact ⟨rfl, k1, fun k o hk hb => k2 k o hk (by rw [Below.heap_alloc _ _ _ (h4 k hk)]; exact hb)⟩
theorem lit_int {w0 w : World} {K : Nat → Prop} {b X : Nat} {bs : List UInt8} (h : EncS w0 K b bs w) (hX : w.cell? ⟨X, 0, none⟩ = some (.func (.func 79) #[.pointer (some ⟨b, 0, none⟩)] #[])) (hXK : K X) (ns : List Int) (cs : Array Value) (hc : cs = (ivs ns).toArray) (n : Nat) (hn : n = ns.length) (hl : ns.length ≤ 100)
  (hok : ∀ n ∈ ns, -9223372036854775808 ≤ n ∧ n ≤ 9223372036854775807) (hlen : bs.length ≤ 100000000) :
  Calls Tryz.prog 122 #[.slice (some ⟨w.heap.size, 0, none⟩) n n, .pointer (some ⟨X, 0, none⟩)] (w.alloc (.cells cs 3)) fun e w' => e = .returned (.tuple #[]) ∧ EncS w0 K b (bs ++ encI ns) w' ∧ Kept K w w' := by
 subst hn
 obtain ⟨F, h1, h2, h3, h4⟩ := h
 have hlt : w.heap.size < (w.alloc (.cells cs 3)).heap.size := by simp
 refine (each_int _ F (fun k => k = w.heap.size) b X bs _ _ _ ns (h1.alloc _) (cell_alloc_any hX _) (fun hF => (h2 X hF).2.2 hXK) (ivs_block (heap_alloc_new _ _) hc (by simp [maxLen]; omega)) (fun k hk hF => by have := (h2 k hF).2.1; omega) hok (by omega)).mono ?_
 rintro e w' ⟨rfl, hw⟩
 obtain ⟨k1, k2⟩ := EncS.onto (K := K) (fun k hk => ⟨(h2 k hk).1, by have := (h2 k hk).2.1; omega, (h2 k hk).2.2⟩) (h3.alloc h3.size _) (fun k hk => by have := h4 k hk; omega) hw
 exact ⟨rfl, k1, fun k o hk hb => k2 k o hk (by rw [Below.heap_alloc _ _ _ (h4 k hk)]; exact hb)⟩
theorem old_int {w0 w : World} {K G : Nat → Prop} {b X : Nat} {bs : List UInt8} (h : EncS w0 K b bs w) (hX : w.cell? ⟨X, 0, none⟩ = some (.func (.func 79) #[.pointer (some ⟨b, 0, none⟩)] #[])) (hXK : K X) (ns : List Int) (A : Option Addr) (n c : Nat) (hr : Rd w0 G (.slice A n c) (ivs ns)) (hl : ns.length ≤ 100)
  (hok : ∀ n ∈ ns, -9223372036854775808 ≤ n ∧ n ≤ 9223372036854775807) (hlen : bs.length ≤ 100000000) :
  Calls Tryz.prog 122 #[.slice A n c, .pointer (some ⟨X, 0, none⟩)] w fun e w' => e = .returned (.tuple #[]) ∧ EncS w0 K b (bs ++ encI ns) w' ∧ Kept K w w' := by
 obtain ⟨F, h1, h2, h3, h4⟩ := h
 refine (each_int _ F (fun k => G k ∧ k < w0.heap.size) b X bs _ _ _ ns h1 hX (fun hF => (h2 X hF).2.2 hXK) (Rd.below hr.bound h3) (fun k hk hF => by have := (h2 k hF).1; have := hk.2; omega) hok (by omega)).mono ?_
 rintro e w' ⟨rfl, hw⟩
 obtain ⟨k1, k2⟩ := EncS.onto (K := K) h2 h3 h4 hw
 exact ⟨rfl, k1, k2⟩
theorem enc_text {w0 w : World} {K : Nat → Prop} {b : Nat} {bs : List UInt8} (h : EncS w0 K b bs w) (s : List UInt8) (hs : s.length ≤ 65536) (hlen : bs.length ≤ 100000000) :
  Calls Tryz.prog 80 #[.pointer (some ⟨b, 0, none⟩), .string ⟨s.toArray⟩] w fun e w' => e = .returned (.int .i64 0) ∧ EncS w0 K b (bs ++ encT s) w' ∧ Kept K w w' := by
 obtain ⟨F, h1, h2, h3, h4⟩ := h
 have e1 : (⟨s.toArray⟩ : ByteArray).size = s.length := by simp [ByteArray.size]
 refine (text_ok w F b bs h1 ⟨s.toArray⟩ (by rw [e1]; exact hs) (by omega)).mono ?_
 rintro e w' ⟨rfl, ho, F', hw, hF'⟩
 rw [e1] at hw
 obtain ⟨k1, k2⟩ := EncS.onto (K := K) h2 h3 h4 ⟨ho, F', hw, hF'⟩
 exact ⟨rfl, k1, k2⟩
theorem each_make (w : World) (k : Fn) (a b : Array Value) : Calls Tryz.prog 77 #[.func k a b] w fun e w' => e = .returned (.func (.func 122) #[] #[.pointer (some ⟨w.heap.size, 0, none⟩)]) ∧ w' = w.alloc (.cells #[.func k a b] 184) := by
 go_enter Tryz.func77, Tryz.ntmps77
 go_wp2_with fail
 go_ret
 exact ⟨rfl, rfl⟩
def EncC (B X1 X2 b : Nat) (vo va vc : Value) (w : World) : Prop :=
 w.cell? ⟨B, 1, none⟩ = some vo ∧ w.cell? ⟨B, 2, none⟩ = some va ∧ w.cell? ⟨B, 3, none⟩ = some vc ∧ w.cell? ⟨X1, 0, none⟩ = some (.func (.func 78) #[.pointer (some ⟨b, 0, none⟩)] #[]) ∧ w.cell? ⟨X2, 0, none⟩ = some (.func (.func 79) #[.pointer (some ⟨b, 0, none⟩)] #[])
theorem EncC.kept {B X1 X2 b : Nat} {vo va vc : Value} {w w' : World} {K : Nat → Prop} (h : EncC B X1 X2 b vo va vc w) (hk : Kept K w w') (hB : K B) (h1 : K X1) (h2 : K X2) : EncC B X1 X2 b vo va vc w' :=
 ⟨hk.cell (p := ⟨B, 1, none⟩) hB h.1, hk.cell (p := ⟨B, 2, none⟩) hB h.2.1, hk.cell (p := ⟨B, 3, none⟩) hB h.2.2.1, hk.cell (p := ⟨X1, 0, none⟩) h1 h.2.2.2.1, hk.cell (p := ⟨X2, 0, none⟩) h2 h.2.2.2.2⟩
theorem EncC.alloc {B X1 X2 b : Nat} {vo va vc : Value} {w : World} (h : EncC B X1 X2 b vo va vc w) (o : Obj) : EncC B X1 X2 b vo va vc (w.alloc o) :=
 ⟨cell_alloc_any h.1 _, cell_alloc_any h.2.1 _, cell_alloc_any h.2.2.1 _, cell_alloc_any h.2.2.2.1 _, cell_alloc_any h.2.2.2.2 _⟩
def EncP (e : FE) (w : World) (en : Ending) (w' : World) : Prop :=
 Below w.heap.size w w' ∧ ((entE e ≠ 0 ∧ en = .returned (.tuple #[.slice none 0 0, .int .i64 (entE e)])) ∨
  (entE e = 0 ∧ ∃ A c, en = .returned (.tuple #[.slice A (sealB (inside e)).length c, .int .i64 0]) ∧ w'.ownsRow w.heap.size 5 1 (.slice A (sealB (inside e)).length c) (sealB (inside e)).length ((sealB (inside e)).map B8)))
def OpsW (w1 : World) (K : Nat → Prop) (B X1 X2 b : Nat) (vo va vc : Value) (bs : List UInt8) (l : List POp) (k : Nat) (wr : World) : Prop := EncS w1 K b (bs ++ (l.take k).flatMap encOp) wr ∧ EncC B X1 X2 b vo va vc wr
def ClsW (w1 : World) (K : Nat → Prop) (B X1 X2 b : Nat) (vo va vc : Value) (bs : List UInt8) (l : List Cl) (k : Nat) (wr : World) : Prop := EncS w1 K b (bs ++ (l.take k).flatMap encCl) wr ∧ EncC B X1 X2 b vo va vc wr
theorem EncS.start {w : World} {B : Nat} (hB : B < w.heap.size) : EncS w (fun k => k = B) w.heap.size [] (w.alloc (.cells #[.slice none 0 0] 188)) := by
 refine ⟨fun k => k = w.heap.size, ⟨.slice none 0 0, heap_alloc_new _ _, rfl, World.ownsRow_nil _ _ _ _, fun g hg => by simp [Value.ownBlock] at hg⟩, fun k hk => ⟨Nat.le_of_eq hk.symm, by simp; omega, fun e => by omega⟩, (Below.refl _ _).alloc (Nat.le_refl _) _, fun k hk => by subst hk; simp; omega⟩
set_option maxHeartbeats 8000000 in
theorem encode_ok (w : World) (G : Nat → Prop) (e : FE) (vo va vc : Value) (h : EntRd w G e vo va vc) (hs : ShTab w) (ht : NibTab w) (hcl : e.cls.length ≤ 1000) :
  Calls Tryz.prog 47 #[entV e vo va vc] w (EncP e w) := by
 obtain ⟨A1, c1, rfl, _, _⟩ := h.1.slice
 obtain ⟨A2, c2, rfl, hla, hca⟩ := ivs_slice h.2.1
 obtain ⟨AC, cC, hvc, _, _⟩ := h.2.2.1.slice
 subst hvc
 unfold entV
 have hbx := (Below.refl w.heap.size w).alloc (Nat.le_refl _) (.cells #[.int .i64 e.id, .slice A1 e.ops.length c1, .slice A2 e.args.length c2, .slice AC e.cls.length cC] 81)
 have hfc := fcheck_ok _ G e _ _ _ (h.below hbx) (hs.below hbx) hcl
 unfold entV at hfc
 obtain ⟨r, hr⟩ : ∃ r, entE e = r := ⟨_, rfl⟩
 rw [hr] at hfc
 have HE := Lib.hid (And.intro h (And.intro ht (And.intro hfc (And.intro hr hbx))))
 clear h hs ht hfc hr
 go_enter Tryz.func47, Tryz.ntmps47
 go_upto_region 1 with fail
 have g0 : (w.alloc (.cells #[.int .i64 e.id, .slice A1 e.ops.length c1, .slice A2 e.args.length c2, .slice AC e.cls.length cC] 81)).cell? ⟨w.heap.size, 0, none⟩ = some (.int .i64 e.id) := by simp
 have g1 : (w.alloc (.cells #[.int .i64 e.id, .slice A1 e.ops.length c1, .slice A2 e.args.length c2, .slice AC e.cls.length cC] 81)).cell? ⟨w.heap.size, 1, none⟩ = some (.slice A1 e.ops.length c1) := by simp
 have g2 : (w.alloc (.cells #[.int .i64 e.id, .slice A1 e.ops.length c1, .slice A2 e.args.length c2, .slice AC e.cls.length cC] 81)).cell? ⟨w.heap.size, 2, none⟩ = some (.slice A2 e.args.length c2) := by simp
 have g3 : (w.alloc (.cells #[.int .i64 e.id, .slice A1 e.ops.length c1, .slice A2 e.args.length c2, .slice AC e.cls.length cC] 81)).cell? ⟨w.heap.size, 3, none⟩ = some (.slice AC e.cls.length cC) := by simp
 generalize w.alloc (.cells #[.int .i64 e.id, .slice A1 e.ops.length c1, .slice A2 e.args.length c2, .slice AC e.cls.length cC] 81) = wb at g0 g1 g2 g3 hbx HE ⊢
 obtain ⟨B, hB⟩ : ∃ B, w.heap.size = B := ⟨_, rfl⟩
 have HBQ := Lib.hid hB
 rw [hB] at g0 g1 g2 g3 ⊢
 clear hB hbx
 go_wp2_with fail
 refine HE.out.2.2.1.mono ?_
 rintro en w1 ⟨rfl, hb1⟩
 have HB1 := Lib.hid (HE.out.2.2.2.2.trans (hb1.mono HE.out.2.2.2.2.size))
 have f0 := (hb1.cell (p := ⟨B, 0, none⟩) (World.block_lt_of_cell? _ _ g0)).trans g0
 have f1 := (hb1.cell (p := ⟨B, 1, none⟩) (World.block_lt_of_cell? _ _ g1)).trans g1
 have f2 := (hb1.cell (p := ⟨B, 2, none⟩) (World.block_lt_of_cell? _ _ g2)).trans g2
 have f3 := (hb1.cell (p := ⟨B, 3, none⟩) (World.block_lt_of_cell? _ _ g3)).trans g3
 clear hb1 g0 g1 g2 g3
 by_cases hr0 : r = 0
 ·subst hr0
  have hgd := entE_zero HE.out.2.2.2.1
  have b1 := hgd.id0
  have b2 := hgd.id1
  have b3 := hgd.opl
  have b4 := hgd.arl
  have b5 := hgd.cll
  have HG := Lib.hid hgd
  clear hgd
  have hst := EncS.start (World.block_lt_of_cell? _ _ f0)
  have k0 := cell_alloc_any f0 (.cells #[.slice none 0 0] 188)
  have k1 := cell_alloc_any f1 (.cells #[.slice none 0 0] 188)
  have k2 := cell_alloc_any f2 (.cells #[.slice none 0 0] 188)
  have k3 := cell_alloc_any f3 (.cells #[.slice none 0 0] 188)
  have hBw := World.block_lt_of_cell? _ _ f0
  clear f0 f1 f2 f3
  go_upto_region 5 with fail
  generalize w1.alloc (.cells #[.slice none 0 0] 188) = w2 at hst k0 k1 k2 k3 ⊢
  obtain ⟨b, hb⟩ : ∃ b, w1.heap.size = b := ⟨_, rfl⟩
  rw [hb] at hst hBw ⊢
  have HBb := Lib.hid hb
  clear hb
  have hst2 := (hst.box (.cells #[(.func (.func 78) #[.pointer (some ⟨b, 0, none⟩)] #[])] 184)).box (.cells #[(.func (.func 79) #[.pointer (some ⟨b, 0, none⟩)] #[])] 184)
  have hxc : EncC B w2.heap.size (w2.alloc (.cells #[(.func (.func 78) #[.pointer (some ⟨b, 0, none⟩)] #[])] 184)).heap.size b (.slice A1 e.ops.length c1) (.slice A2 e.args.length c2) (.slice AC e.cls.length cC) ((w2.alloc (.cells #[(.func (.func 78) #[.pointer (some ⟨b, 0, none⟩)] #[])] 184)).alloc (.cells #[(.func (.func 79) #[.pointer (some ⟨b, 0, none⟩)] #[])] 184)) :=
   ⟨cell_alloc_any (cell_alloc_any k1 _) _, cell_alloc_any (cell_alloc_any k2 _) _, cell_alloc_any (cell_alloc_any k3 _) _, cell_alloc_any (by simp) _, by simp⟩
  have kk0 := cell_alloc_any (cell_alloc_any k0 (.cells #[(.func (.func 78) #[.pointer (some ⟨b, 0, none⟩)] #[])] 184)) (.cells #[(.func (.func 79) #[.pointer (some ⟨b, 0, none⟩)] #[])] 184)
  have HST := Lib.hid (And.intro hst2 hxc)
  clear hst hst2 hxc k0 k1 k2 k3
  go_wp2_with fail
  refine (each_make _ _ _ _).mono ?_
  rintro en w3 ⟨rfl, rfl⟩
  go_wp2_with fail
  refine (each_make _ _ _ _).mono ?_
  rintro en w4 ⟨rfl, hw4⟩
  rw [← hw4] at HST kk0
  obtain ⟨X1, hX1⟩ : ∃ X, w2.heap.size = X := ⟨_, rfl⟩
  obtain ⟨X2, hX2⟩ : ∃ X, (w2.alloc (.cells #[(.func (.func 78) #[.pointer (some ⟨b, 0, none⟩)] #[])] 184)).heap.size = X := ⟨_, rfl⟩
  rw [hX1, hX2] at HST
  rw [hX1, hX2]
  obtain ⟨K, hK⟩ : ∃ K : Nat → Prop, (fun k => (k = B ∨ k = X1) ∨ k = X2) = K := ⟨_, rfl⟩
  have HK := Lib.hid (show K B ∧ K X1 ∧ K X2 by rw [← hK]; exact ⟨.inl (.inl rfl), .inl (.inr rfl), .inr rfl⟩)
  rw [hK] at HST
  clear hw4 hX1 hX2 hK hBw
  obtain ⟨bs0, hbs0⟩ : ∃ x : List UInt8, x = [] := ⟨_, rfl⟩
  have HS0 := Lib.hid (show EncS w1 K b bs0 w4 ∧ _ by rw [hbs0]; exact HST.out)
  have hl0 : bs0.length ≤ 0 := by rw [hbs0]; exact Nat.le_refl _
  have HBS0 := Lib.hid hbs0
  obtain ⟨cB1, cB2, cB3, cX1, cX2⟩ := HST.out.2
  clear HST hbs0
  go_wp2_with fail
  refine (lit_uint HS0.out.1 cX1 ((And.intro HK.out.1 (And.intro HK.out.2.1 (And.intro HK.out.2.2 trivial))).2.1) [e.id, (e.ops.length : Int)] _ rfl _ rfl (by simp) (fun n hn => by simp at hn; rcases hn with rfl | rfl <;> omega) (by omega)).mono ?_
  rintro en w5 ⟨rfl, hS, hkp⟩
  have hC := HS0.out.2.kept hkp (And.intro HK.out.1 (And.intro HK.out.2.1 (And.intro HK.out.2.2 trivial))).1 (And.intro HK.out.1 (And.intro HK.out.2.1 (And.intro HK.out.2.2 trivial))).2.1 (And.intro HK.out.1 (And.intro HK.out.2.1 (And.intro HK.out.2.2 trivial))).2.2.1
  clear cB1 cB2 cB3 cX1 cX2
  have kk0_ := hkp.cell (p := ⟨B, 0, none⟩) (HK.out.1) kk0
  clear kk0
  have kk0 := kk0_
  clear kk0_
  obtain ⟨bs1, hbs1⟩ : ∃ x, x = bs0 ++ encU [e.id, (e.ops.length : Int)] := ⟨_, rfl⟩
  have hl1 : bs1.length ≤ bs0.length + 20 := by
   rw [hbs1, List.length_append]
   have := encU_len [e.id, (e.ops.length : Int)]; simp only [List.length_cons, List.length_nil] at this; omega
  rw [← hbs1] at hS
  have HBS1 := Lib.hid hbs1
  have HS1 := Lib.hid (And.intro hS hC)
  obtain ⟨cB1, cB2, cB3, cX1, cX2⟩ := hC
  clear hS hkp hbs1 HS0
  clear kk0
  go_wp2_with fail
  go_loopw [33] (fun i wr => ∃ k : Nat, k ≤ e.ops.length ∧ i = .int .i64 (k : Int) ∧ OpsW w1 K B X1 X2 b (.slice A1 e.ops.length c1) (.slice A2 e.args.length c2) (.slice AC e.cls.length cC) bs1 e.ops k wr) (fun i _ => e.ops.length - (intOf i).toNat)
  case atStart => exact ⟨0, Nat.zero_le _, rfl, by simpa using HS1.out.1, HS1.out.2⟩
  case round =>
   obtain ⟨k, hk, rfl, hE, hC⟩ := hrel
   clear cB1 cB2 cB3 cX1 cX2
   obtain ⟨cB1, cB2, cB3, cX1, cX2⟩ := hC
   by_cases hlt : k < e.ops.length
   ·obtain ⟨x, hx⟩ : ∃ x, e.ops[k]? = some x := ⟨_, List.getElem?_eq_getElem hlt⟩
    obtain ⟨bo, oo, hA1, _, c0, d1, d2, d3, d4⟩ := HE.out.1.1.at_ hx
    subst hA1
    have hbl0 : Below w.heap.size w wr := HB1.out.trans (hE.bl.mono HB1.out.size)
    have hbw := World.block_lt_of_cell? _ _ c0
    have q0 := (hbl0.cell (p := ⟨bo, oo + k * 5, none⟩) hbw).trans c0
    have q1 := (hbl0.cell (p := ⟨bo, oo + k * 5 + 1, none⟩) hbw).trans d1
    have q2 := (hbl0.cell (p := ⟨bo, oo + k * 5 + 2, none⟩) hbw).trans d2
    have q3 := (hbl0.cell (p := ⟨bo, oo + k * 5 + 3, none⟩) hbw).trans d3
    have q4 := (hbl0.cell (p := ⟨bo, oo + k * 5 + 4, none⟩) hbw).trans d4
    have hob := HG.out.opb x (List.mem_of_getElem? hx)
    obtain ⟨D, A', B', C', N'⟩ := x
    simp only at q0 q1 q2 q3 q4 hob
    obtain ⟨⟨o1, o2⟩, ⟨o3, o4⟩, ⟨o5, o6⟩, ⟨o7, o8⟩, o9, o10⟩ := hob
    have hE9 := hE.box (.cells #[.int .i64 D, .int .i64 A', .int .i64 B', .int .i64 C', .int .i64 N'] 104)
    have hC9 : EncC B X1 X2 b _ _ _ (wr.alloc (.cells #[.int .i64 D, .int .i64 A', .int .i64 B', .int .i64 C', .int .i64 N'] 104)) := EncC.alloc ⟨cB1, cB2, cB3, cX1, cX2⟩ _
    have t0 : (wr.alloc (.cells #[.int .i64 D, .int .i64 A', .int .i64 B', .int .i64 C', .int .i64 N'] 104)).cell? ⟨wr.heap.size, 0, none⟩ = some (.int .i64 D) := by simp
    have t1 : (wr.alloc (.cells #[.int .i64 D, .int .i64 A', .int .i64 B', .int .i64 C', .int .i64 N'] 104)).cell? ⟨wr.heap.size, 1, none⟩ = some (.int .i64 A') := by simp
    have t2 : (wr.alloc (.cells #[.int .i64 D, .int .i64 A', .int .i64 B', .int .i64 C', .int .i64 N'] 104)).cell? ⟨wr.heap.size, 2, none⟩ = some (.int .i64 B') := by simp
    have t3 : (wr.alloc (.cells #[.int .i64 D, .int .i64 A', .int .i64 B', .int .i64 C', .int .i64 N'] 104)).cell? ⟨wr.heap.size, 3, none⟩ = some (.int .i64 C') := by simp
    have t4 : (wr.alloc (.cells #[.int .i64 D, .int .i64 A', .int .i64 B', .int .i64 C', .int .i64 N'] 104)).cell? ⟨wr.heap.size, 4, none⟩ = some (.int .i64 N') := by simp
    have hfl := ops_flat e.ops k
    have HX := Lib.hid (And.intro hx (And.intro hk hE.bl))
    clear hx hE c0 d1 d2 d3 d4 hbl0 hbw
    go_upto_region 10 with fail
    clear q0 q1 q2 q3 q4 cB1 cB2 cB3 cX1 cX2
    generalize wr.alloc (.cells #[.int .i64 D, .int .i64 A', .int .i64 B', .int .i64 C', .int .i64 N'] 104) = w6 at hE9 hC9 t0 t1 t2 t3 t4 ⊢
    obtain ⟨B9, hB9⟩ : ∃ x, wr.heap.size = x := ⟨_, rfl⟩
    rw [hB9] at hE9 t0 t1 t2 t3 t4 ⊢
    obtain ⟨K9, hK9⟩ : ∃ K9 : Nat → Prop, (fun k => K k ∨ k = B9) = K9 := ⟨_, rfl⟩
    have HK9 := Lib.hid (show (K9 B ∧ K9 X1 ∧ K9 X2 ∧ K9 B9) ∧ ∀ k, K k → K9 k by rw [← hK9]; exact ⟨⟨.inl HK.out.1, .inl HK.out.2.1, .inl HK.out.2.2, .inr rfl⟩, fun k hk => .inl hk⟩)
    rw [hK9] at hE9
    obtain ⟨bs2, hbs2⟩ : ∃ x, x = bs1 ++ (e.ops.take k).flatMap encOp := ⟨_, rfl⟩
    have hl2 : bs2.length ≤ bs1.length + 3200 := by rw [hbs2, List.length_append]; omega
    rw [← hbs2] at hE9
    have HBS2 := Lib.hid hbs2
    have HS2 := Lib.hid (And.intro hE9 hC9)
    obtain ⟨cB1, cB2, cB3, cX1, cX2⟩ := hC9
    clear hE9 hbs2 hK9 hB9 hfl
    go_wp2_with fail
    refine (lit_uint HS2.out.1 cX1 ((HK9.out.1).2.1) [D, A', B'] _ rfl _ rfl (by simp) (fun n hn => by simp at hn; rcases hn with rfl | rfl | rfl <;> omega) (by omega)).mono ?_
    rintro en w7 ⟨rfl, hS, hkp⟩
    have hC := HS2.out.2.kept hkp (HK9.out.1).1 (HK9.out.1).2.1 (HK9.out.1).2.2.1
    clear cB1 cB2 cB3 cX1 cX2
    have t0_ := hkp.cell (p := ⟨B9, 0, none⟩) (HK9.out.1.2.2.2) t0
    clear t0
    have t0 := t0_
    clear t0_
    have t1_ := hkp.cell (p := ⟨B9, 1, none⟩) (HK9.out.1.2.2.2) t1
    clear t1
    have t1 := t1_
    clear t1_
    have t2_ := hkp.cell (p := ⟨B9, 2, none⟩) (HK9.out.1.2.2.2) t2
    clear t2
    have t2 := t2_
    clear t2_
    have t3_ := hkp.cell (p := ⟨B9, 3, none⟩) (HK9.out.1.2.2.2) t3
    clear t3
    have t3 := t3_
    clear t3_
    have t4_ := hkp.cell (p := ⟨B9, 4, none⟩) (HK9.out.1.2.2.2) t4
    clear t4
    have t4 := t4_
    clear t4_
    obtain ⟨bs3, hbs3⟩ : ∃ x, x = bs2 ++ encU [D, A', B'] := ⟨_, rfl⟩
    have hl3 : bs3.length ≤ bs2.length + 30 := by
     rw [hbs3, List.length_append]
     have := encU_len [D, A', B']; simp only [List.length_cons, List.length_nil] at this; omega
    rw [← hbs3] at hS
    have HBS3 := Lib.hid hbs3
    have HS3 := Lib.hid (And.intro hS hC)
    obtain ⟨cB1, cB2, cB3, cX1, cX2⟩ := hC
    clear hS hkp hbs3 HS2
    go_wp2_with fail
    refine (lit_int HS3.out.1 cX2 ((HK9.out.1).2.2.1) [C'] _ rfl _ rfl (by simp) (fun n hn => by simp at hn; subst hn; omega) (by omega)).mono ?_
    rintro en w8 ⟨rfl, hS, hkp⟩
    have hC := HS3.out.2.kept hkp (HK9.out.1).1 (HK9.out.1).2.1 (HK9.out.1).2.2.1
    clear cB1 cB2 cB3 cX1 cX2
    have t0_ := hkp.cell (p := ⟨B9, 0, none⟩) (HK9.out.1.2.2.2) t0
    clear t0
    have t0 := t0_
    clear t0_
    have t1_ := hkp.cell (p := ⟨B9, 1, none⟩) (HK9.out.1.2.2.2) t1
    clear t1
    have t1 := t1_
    clear t1_
    have t2_ := hkp.cell (p := ⟨B9, 2, none⟩) (HK9.out.1.2.2.2) t2
    clear t2
    have t2 := t2_
    clear t2_
    have t3_ := hkp.cell (p := ⟨B9, 3, none⟩) (HK9.out.1.2.2.2) t3
    clear t3
    have t3 := t3_
    clear t3_
    have t4_ := hkp.cell (p := ⟨B9, 4, none⟩) (HK9.out.1.2.2.2) t4
    clear t4
    have t4 := t4_
    clear t4_
    obtain ⟨bs4, hbs4⟩ : ∃ x, x = bs3 ++ encI [C'] := ⟨_, rfl⟩
    have hl4 : bs4.length ≤ bs3.length + 10 := by
     rw [hbs4, List.length_append]
     have := encI_len [C']; simp only [List.length_cons, List.length_nil] at this; omega
    rw [← hbs4] at hS
    have HBS4 := Lib.hid hbs4
    have HS4 := Lib.hid (And.intro hS hC)
    obtain ⟨cB1, cB2, cB3, cX1, cX2⟩ := hC
    clear hS hkp hbs4 HS3
    go_wp2_with fail
    refine (lit_uint HS4.out.1 cX1 ((HK9.out.1).2.1) [N'] _ rfl _ rfl (by simp) (fun n hn => by simp at hn; subst hn; omega) (by omega)).mono ?_
    rintro en w9 ⟨rfl, hS, hkp⟩
    have hC := HS4.out.2.kept hkp (HK9.out.1).1 (HK9.out.1).2.1 (HK9.out.1).2.2.1
    clear cB1 cB2 cB3 cX1 cX2
    have t0_ := hkp.cell (p := ⟨B9, 0, none⟩) (HK9.out.1.2.2.2) t0
    clear t0
    have t0 := t0_
    clear t0_
    have t1_ := hkp.cell (p := ⟨B9, 1, none⟩) (HK9.out.1.2.2.2) t1
    clear t1
    have t1 := t1_
    clear t1_
    have t2_ := hkp.cell (p := ⟨B9, 2, none⟩) (HK9.out.1.2.2.2) t2
    clear t2
    have t2 := t2_
    clear t2_
    have t3_ := hkp.cell (p := ⟨B9, 3, none⟩) (HK9.out.1.2.2.2) t3
    clear t3
    have t3 := t3_
    clear t3_
    have t4_ := hkp.cell (p := ⟨B9, 4, none⟩) (HK9.out.1.2.2.2) t4
    clear t4
    have t4 := t4_
    clear t4_
    obtain ⟨bs5, hbs5⟩ : ∃ x, x = bs4 ++ encU [N'] := ⟨_, rfl⟩
    have hl5 : bs5.length ≤ bs4.length + 10 := by
     rw [hbs5, List.length_append]
     have := encU_len [N']; simp only [List.length_cons, List.length_nil] at this; omega
    rw [← hbs5] at hS
    have HBS5 := Lib.hid hbs5
    have HS5 := Lib.hid (And.intro hS hC)
    obtain ⟨cB1, cB2, cB3, cX1, cX2⟩ := hC
    clear hS hkp hbs5 HS4
    go_wp2_with fail
    go_roundw
    case rel =>
     refine ⟨k + 1, by have := HX.out.2.1; omega, by go_num, ?_, HS5.out.2⟩
     rw [flat_snoc HX.out.1]
     have h9 := HS5.out.1.less HK9.out.2
     have e9 : bs5 = bs1 ++ ((e.ops.take k).flatMap encOp ++ encOp ⟨D, A', B', C', N'⟩) := by rw [HBS5.out, HBS4.out, HBS3.out, HBS2.out]; simp [encOp]
     rw [e9] at h9
     exact h9
    case measure => simp [intOf]; omega
   ·have hkl : k = e.ops.length := by omega
    subst hkl
    rw [List.take_length] at hE
    have hfl := ops_flat e.ops e.ops.length
    rw [List.take_length] at hfl
    obtain ⟨bs6, hbs6⟩ : ∃ x, x = bs1 ++ e.ops.flatMap encOp := ⟨_, rfl⟩
    have hl6 : bs6.length ≤ bs1.length + 3200 := by rw [hbs6, List.length_append]; omega
    rw [← hbs6] at hE
    have HBS6 := Lib.hid hbs6
    have HS6 := Lib.hid (show EncS w1 K b bs6 wr ∧ EncC B X1 X2 b _ _ _ wr from ⟨hE, ⟨cB1, cB2, cB3, cX1, cX2⟩⟩)
    clear hE hbs6 hfl HS1
    go_wp2_with fail
    refine (lit_uint HS6.out.1 cX1 ((And.intro HK.out.1 (And.intro HK.out.2.1 (And.intro HK.out.2.2 trivial))).2.1) [(e.args.length : Int)] _ rfl _ rfl (by simp) (fun n hn => by simp at hn; subst hn; omega) (by omega)).mono ?_
    rintro en w11 ⟨rfl, hS, hkp⟩
    have hC := HS6.out.2.kept hkp (And.intro HK.out.1 (And.intro HK.out.2.1 (And.intro HK.out.2.2 trivial))).1 (And.intro HK.out.1 (And.intro HK.out.2.1 (And.intro HK.out.2.2 trivial))).2.1 (And.intro HK.out.1 (And.intro HK.out.2.1 (And.intro HK.out.2.2 trivial))).2.2.1
    clear cB1 cB2 cB3 cX1 cX2
    obtain ⟨bs7, hbs7⟩ : ∃ x, x = bs6 ++ encU [(e.args.length : Int)] := ⟨_, rfl⟩
    have hl7 : bs7.length ≤ bs6.length + 10 := by
     rw [hbs7, List.length_append]
     have := encU_len [(e.args.length : Int)]; simp only [List.length_cons, List.length_nil] at this; omega
    rw [← hbs7] at hS
    have HBS7 := Lib.hid hbs7
    have HS7 := Lib.hid (And.intro hS hC)
    obtain ⟨cB1, cB2, cB3, cX1, cX2⟩ := hC
    clear hS hkp hbs7 HS6
    have harb := HG.out.arb
    have HAO := Lib.hid (old_int HS7.out.1 cX2 HK.out.2.2 e.args A2 e.args.length c2 (Rd.below HE.out.1.2.1 HB1.out) (by omega) (fun n hn => by have := harb n hn; omega) (by omega))
    clear harb
    go_wp2_with fail
    refine (HAO.out).mono ?_
    rintro en w12 ⟨rfl, hS, hkp⟩
    have hC := HS7.out.2.kept hkp (And.intro HK.out.1 (And.intro HK.out.2.1 (And.intro HK.out.2.2 trivial))).1 (And.intro HK.out.1 (And.intro HK.out.2.1 (And.intro HK.out.2.2 trivial))).2.1 (And.intro HK.out.1 (And.intro HK.out.2.1 (And.intro HK.out.2.2 trivial))).2.2.1
    clear cB1 cB2 cB3 cX1 cX2
    obtain ⟨bs8, hbs8⟩ : ∃ x, x = bs7 ++ encI e.args := ⟨_, rfl⟩
    have hl8 : bs8.length ≤ bs7.length + 80 := by
     rw [hbs8, List.length_append]
     have := encI_len e.args; omega
    rw [← hbs8] at hS
    have HBS8 := Lib.hid hbs8
    have HS8 := Lib.hid (And.intro hS hC)
    obtain ⟨cB1, cB2, cB3, cX1, cX2⟩ := hC
    clear hS hkp hbs8 HS7
    go_wp2_with fail
    refine (lit_uint HS8.out.1 cX1 ((And.intro HK.out.1 (And.intro HK.out.2.1 (And.intro HK.out.2.2 trivial))).2.1) [(e.cls.length : Int)] _ rfl _ rfl (by simp) (fun n hn => by simp at hn; subst hn; omega) (by omega)).mono ?_
    rintro en w13 ⟨rfl, hS, hkp⟩
    have hC := HS8.out.2.kept hkp (And.intro HK.out.1 (And.intro HK.out.2.1 (And.intro HK.out.2.2 trivial))).1 (And.intro HK.out.1 (And.intro HK.out.2.1 (And.intro HK.out.2.2 trivial))).2.1 (And.intro HK.out.1 (And.intro HK.out.2.1 (And.intro HK.out.2.2 trivial))).2.2.1
    clear cB1 cB2 cB3 cX1 cX2
    obtain ⟨bs9, hbs9⟩ : ∃ x, x = bs8 ++ encU [(e.cls.length : Int)] := ⟨_, rfl⟩
    have hl9 : bs9.length ≤ bs8.length + 10 := by
     rw [hbs9, List.length_append]
     have := encU_len [(e.cls.length : Int)]; simp only [List.length_cons, List.length_nil] at this; omega
    rw [← hbs9] at hS
    have HBS9 := Lib.hid hbs9
    have HS9 := Lib.hid (And.intro hS hC)
    obtain ⟨cB1, cB2, cB3, cX1, cX2⟩ := hC
    clear hS hkp hbs9 HS8
    go_wp2_with fail
    go_loopw [76] (fun i wr => ∃ k : Nat, k ≤ e.cls.length ∧ i = .int .i64 (k : Int) ∧ ClsW w1 K B X1 X2 b (.slice A1 e.ops.length c1) (.slice A2 e.args.length c2) (.slice AC e.cls.length cC) bs9 e.cls k wr) (fun i _ => e.cls.length - (intOf i).toNat)
    case atStart => exact ⟨0, Nat.zero_le _, rfl, by simpa using HS9.out.1, HS9.out.2⟩
    case round =>
     obtain ⟨k, hk, rfl, hE, hC⟩ := hrel
     clear cB1 cB2 cB3 cX1 cX2
     obtain ⟨cB1, cB2, cB3, cX1, cX2⟩ := hC
     by_cases hlt : k < e.cls.length
     ·obtain ⟨x, hx⟩ : ∃ x, e.cls[k]? = some x := ⟨_, List.getElem?_eq_getElem hlt⟩
      obtain ⟨bo, oo, hA1, _, c0, d1, d2, d3, d4⟩ := HE.out.1.2.2.1.at_ hx
      subst hA1
      have hbl0 : Below w.heap.size w wr := HB1.out.trans (hE.bl.mono HB1.out.size)
      have hbw := World.block_lt_of_cell? _ _ c0
      have q0 := (hbl0.cell (p := ⟨bo, oo + k * 5, none⟩) hbw).trans c0
      have q1 := (hbl0.cell (p := ⟨bo, oo + k * 5 + 1, none⟩) hbw).trans d1
      have q2 := (hbl0.cell (p := ⟨bo, oo + k * 5 + 2, none⟩) hbw).trans d2
      have q3 := (hbl0.cell (p := ⟨bo, oo + k * 5 + 3, none⟩) hbw).trans d3
      have q4 := (hbl0.cell (p := ⟨bo, oo + k * 5 + 4, none⟩) hbw).trans d4
      have hob := HG.out.clo x (List.mem_of_getElem? hx)
      have hky := hob.key_len
      have hft := HE.out.1.2.2.2.2.2.2 x (List.mem_of_getElem? hx)
      obtain ⟨D, A', B', C', N'⟩ := x
      simp only at q0 q1 q2 q3 q4 hky
      obtain ⟨⟨o1, o2⟩, ⟨o3, o4⟩, ⟨o5, o6⟩, _⟩ := hft
      simp only at o1 o2 o3 o4 o5 o6
      have hE9 := hE.box (.cells #[.bool D, .int .i64 A', .string ⟨B'.toArray⟩, .int .i64 C', .int .i64 N'] 48)
      have hC9 : EncC B X1 X2 b _ _ _ (wr.alloc (.cells #[.bool D, .int .i64 A', .string ⟨B'.toArray⟩, .int .i64 C', .int .i64 N'] 48)) := EncC.alloc ⟨cB1, cB2, cB3, cX1, cX2⟩ _
      have t0 : (wr.alloc (.cells #[.bool D, .int .i64 A', .string ⟨B'.toArray⟩, .int .i64 C', .int .i64 N'] 48)).cell? ⟨wr.heap.size, 0, none⟩ = some (.bool D) := by simp
      have t1 : (wr.alloc (.cells #[.bool D, .int .i64 A', .string ⟨B'.toArray⟩, .int .i64 C', .int .i64 N'] 48)).cell? ⟨wr.heap.size, 1, none⟩ = some (.int .i64 A') := by simp
      have t2 : (wr.alloc (.cells #[.bool D, .int .i64 A', .string ⟨B'.toArray⟩, .int .i64 C', .int .i64 N'] 48)).cell? ⟨wr.heap.size, 2, none⟩ = some (.string ⟨B'.toArray⟩) := by simp
      have t3 : (wr.alloc (.cells #[.bool D, .int .i64 A', .string ⟨B'.toArray⟩, .int .i64 C', .int .i64 N'] 48)).cell? ⟨wr.heap.size, 3, none⟩ = some (.int .i64 C') := by simp
      have t4 : (wr.alloc (.cells #[.bool D, .int .i64 A', .string ⟨B'.toArray⟩, .int .i64 C', .int .i64 N'] 48)).cell? ⟨wr.heap.size, 4, none⟩ = some (.int .i64 N') := by simp
      have hfl := cls_flat e.cls (fun c hc => (HG.out.clo c hc).key_len) k
      have HX := Lib.hid (And.intro hx (And.intro hk hE.bl))
      clear hx hE c0 d1 d2 d3 d4 hbl0 hbw hob
      go_upto_region 20 with fail
      clear q0 q1 q2 q3 q4 cB1 cB2 cB3 cX1 cX2
      generalize wr.alloc (.cells #[.bool D, .int .i64 A', .string ⟨B'.toArray⟩, .int .i64 C', .int .i64 N'] 48) = w14 at hE9 hC9 t0 t1 t2 t3 t4 ⊢
      obtain ⟨B9, hB9⟩ : ∃ x, wr.heap.size = x := ⟨_, rfl⟩
      rw [hB9] at hE9 t0 t1 t2 t3 t4 ⊢
      obtain ⟨K9, hK9⟩ : ∃ K9 : Nat → Prop, (fun k => K k ∨ k = B9) = K9 := ⟨_, rfl⟩
      have HK9 := Lib.hid (show (K9 B ∧ K9 X1 ∧ K9 X2 ∧ K9 B9) ∧ ∀ k, K k → K9 k by rw [← hK9]; exact ⟨⟨.inl HK.out.1, .inl HK.out.2.1, .inl HK.out.2.2, .inr rfl⟩, fun k hk => .inl hk⟩)
      rw [hK9] at hE9
      obtain ⟨bs10, hbs10⟩ : ∃ x, x = bs9 ++ (e.cls.take k).flatMap encCl := ⟨_, rfl⟩
      have hl10 : bs10.length ≤ bs9.length + 4224 := by rw [hbs10, List.length_append]; omega
      rw [← hbs10] at hE9
      have HBS10 := Lib.hid hbs10
      have HS10 := Lib.hid (And.intro hE9 hC9)
      obtain ⟨cB1, cB2, cB3, cX1, cX2⟩ := hC9
      clear hE9 hbs10 hK9 hB9 hfl
      cases D with
      | true =>
       go_wp2_with fail
       refine (lit_uint HS10.out.1 cX1 ((HK9.out.1).2.1) [1] _ rfl _ rfl (by simp) (fun n hn => by simp at hn; subst hn; omega) (by omega)).mono ?_
       rintro en w15 ⟨rfl, hS, hkp⟩
       have hC := HS10.out.2.kept hkp (HK9.out.1).1 (HK9.out.1).2.1 (HK9.out.1).2.2.1
       clear cB1 cB2 cB3 cX1 cX2
       have t0_ := hkp.cell (p := ⟨B9, 0, none⟩) (HK9.out.1.2.2.2) t0
       clear t0
       have t0 := t0_
       clear t0_
       have t1_ := hkp.cell (p := ⟨B9, 1, none⟩) (HK9.out.1.2.2.2) t1
       clear t1
       have t1 := t1_
       clear t1_
       have t2_ := hkp.cell (p := ⟨B9, 2, none⟩) (HK9.out.1.2.2.2) t2
       clear t2
       have t2 := t2_
       clear t2_
       have t3_ := hkp.cell (p := ⟨B9, 3, none⟩) (HK9.out.1.2.2.2) t3
       clear t3
       have t3 := t3_
       clear t3_
       have t4_ := hkp.cell (p := ⟨B9, 4, none⟩) (HK9.out.1.2.2.2) t4
       clear t4
       have t4 := t4_
       clear t4_
       obtain ⟨bs11, hbs11⟩ : ∃ x, x = bs10 ++ encU [1] := ⟨_, rfl⟩
       have hl11 : bs11.length ≤ bs10.length + 10 := by
        rw [hbs11, List.length_append]
        have := encU_len [1]; simp only [List.length_cons, List.length_nil] at this; omega
       rw [← hbs11] at hS
       have HBS11 := Lib.hid hbs11
       have HS11 := Lib.hid (And.intro hS hC)
       obtain ⟨cB1, cB2, cB3, cX1, cX2⟩ := hC
       clear hS hkp hbs11 HS10
       go_wp2_with fail
       refine (lit_int HS11.out.1 cX2 ((HK9.out.1).2.2.1) [A'] _ rfl _ rfl (by simp) (fun n hn => by simp at hn; subst hn; omega) (by omega)).mono ?_
       rintro en w16 ⟨rfl, hS, hkp⟩
       have hC := HS11.out.2.kept hkp (HK9.out.1).1 (HK9.out.1).2.1 (HK9.out.1).2.2.1
       clear cB1 cB2 cB3 cX1 cX2
       have t0_ := hkp.cell (p := ⟨B9, 0, none⟩) (HK9.out.1.2.2.2) t0
       clear t0
       have t0 := t0_
       clear t0_
       have t1_ := hkp.cell (p := ⟨B9, 1, none⟩) (HK9.out.1.2.2.2) t1
       clear t1
       have t1 := t1_
       clear t1_
       have t2_ := hkp.cell (p := ⟨B9, 2, none⟩) (HK9.out.1.2.2.2) t2
       clear t2
       have t2 := t2_
       clear t2_
       have t3_ := hkp.cell (p := ⟨B9, 3, none⟩) (HK9.out.1.2.2.2) t3
       clear t3
       have t3 := t3_
       clear t3_
       have t4_ := hkp.cell (p := ⟨B9, 4, none⟩) (HK9.out.1.2.2.2) t4
       clear t4
       have t4 := t4_
       clear t4_
       obtain ⟨bs12, hbs12⟩ : ∃ x, x = bs11 ++ encI [A'] := ⟨_, rfl⟩
       have hl12 : bs12.length ≤ bs11.length + 10 := by
        rw [hbs12, List.length_append]
        have := encI_len [A']; simp only [List.length_cons, List.length_nil] at this; omega
       rw [← hbs12] at hS
       have HBS12 := Lib.hid hbs12
       have HS12 := Lib.hid (And.intro hS hC)
       obtain ⟨cB1, cB2, cB3, cX1, cX2⟩ := hC
       clear hS hkp hbs12 HS11
       have HTX := Lib.hid (enc_text HS12.out.1 B' (by omega) (by omega))
       go_wp2_with fail
       refine (HTX.out).mono ?_
       rintro en w17 ⟨rfl, hS, hkp⟩
       have hC := HS12.out.2.kept hkp (HK9.out.1).1 (HK9.out.1).2.1 (HK9.out.1).2.2.1
       clear cB1 cB2 cB3 cX1 cX2
       have t0_ := hkp.cell (p := ⟨B9, 0, none⟩) (HK9.out.1.2.2.2) t0
       clear t0
       have t0 := t0_
       clear t0_
       have t1_ := hkp.cell (p := ⟨B9, 1, none⟩) (HK9.out.1.2.2.2) t1
       clear t1
       have t1 := t1_
       clear t1_
       have t2_ := hkp.cell (p := ⟨B9, 2, none⟩) (HK9.out.1.2.2.2) t2
       clear t2
       have t2 := t2_
       clear t2_
       have t3_ := hkp.cell (p := ⟨B9, 3, none⟩) (HK9.out.1.2.2.2) t3
       clear t3
       have t3 := t3_
       clear t3_
       have t4_ := hkp.cell (p := ⟨B9, 4, none⟩) (HK9.out.1.2.2.2) t4
       clear t4
       have t4 := t4_
       clear t4_
       obtain ⟨bs13, hbs13⟩ : ∃ x, x = bs12 ++ encT B' := ⟨_, rfl⟩
       have hl13 : bs13.length ≤ bs12.length + 26 := by
        rw [hbs13, List.length_append]
        have := leb_length B'.length; simp only [encT, List.length_append]; omega
       rw [← hbs13] at hS
       have HBS13 := Lib.hid hbs13
       have HS13 := Lib.hid (And.intro hS hC)
       obtain ⟨cB1, cB2, cB3, cX1, cX2⟩ := hC
       clear hS hkp hbs13 HS12
       go_wp2_with fail
       refine (lit_int HS13.out.1 cX2 ((HK9.out.1).2.2.1) [C', N'] _ rfl _ rfl (by simp) (fun n hn => by simp at hn; rcases hn with rfl | rfl <;> omega) (by omega)).mono ?_
       rintro en w18 ⟨rfl, hS, hkp⟩
       have hC := HS13.out.2.kept hkp (HK9.out.1).1 (HK9.out.1).2.1 (HK9.out.1).2.2.1
       clear cB1 cB2 cB3 cX1 cX2
       have t0_ := hkp.cell (p := ⟨B9, 0, none⟩) (HK9.out.1.2.2.2) t0
       clear t0
       have t0 := t0_
       clear t0_
       have t1_ := hkp.cell (p := ⟨B9, 1, none⟩) (HK9.out.1.2.2.2) t1
       clear t1
       have t1 := t1_
       clear t1_
       have t2_ := hkp.cell (p := ⟨B9, 2, none⟩) (HK9.out.1.2.2.2) t2
       clear t2
       have t2 := t2_
       clear t2_
       have t3_ := hkp.cell (p := ⟨B9, 3, none⟩) (HK9.out.1.2.2.2) t3
       clear t3
       have t3 := t3_
       clear t3_
       have t4_ := hkp.cell (p := ⟨B9, 4, none⟩) (HK9.out.1.2.2.2) t4
       clear t4
       have t4 := t4_
       clear t4_
       obtain ⟨bs14, hbs14⟩ : ∃ x, x = bs13 ++ encI [C', N'] := ⟨_, rfl⟩
       have hl14 : bs14.length ≤ bs13.length + 20 := by
        rw [hbs14, List.length_append]
        have := encI_len [C', N']; simp only [List.length_cons, List.length_nil] at this; omega
       rw [← hbs14] at hS
       have HBS14 := Lib.hid hbs14
       have HS14 := Lib.hid (And.intro hS hC)
       obtain ⟨cB1, cB2, cB3, cX1, cX2⟩ := hC
       clear hS hkp hbs14 HS13
       go_wp2_with fail
       go_roundw
       case rel =>
        refine ⟨k + 1, by have := HX.out.2.1; omega, by go_num, ?_, HS14.out.2⟩
        rw [flat_snoc HX.out.1]
        have h9 := HS14.out.1.less HK9.out.2
        have e9 : bs14 = bs9 ++ ((e.cls.take k).flatMap encCl ++ encCl ⟨true, A', B', C', N'⟩) := by rw [HBS14.out, HBS13.out, HBS12.out, HBS11.out, HBS10.out]; simp [encCl, markOf]
        rw [e9] at h9
        exact h9
       case measure => simp [intOf]; omega
      | false =>
       go_wp2_with fail
       refine (lit_uint HS10.out.1 cX1 ((HK9.out.1).2.1) [0] _ rfl _ rfl (by simp) (fun n hn => by simp at hn; subst hn; omega) (by omega)).mono ?_
       rintro en w15 ⟨rfl, hS, hkp⟩
       have hC := HS10.out.2.kept hkp (HK9.out.1).1 (HK9.out.1).2.1 (HK9.out.1).2.2.1
       clear cB1 cB2 cB3 cX1 cX2
       have t0_ := hkp.cell (p := ⟨B9, 0, none⟩) (HK9.out.1.2.2.2) t0
       clear t0
       have t0 := t0_
       clear t0_
       have t1_ := hkp.cell (p := ⟨B9, 1, none⟩) (HK9.out.1.2.2.2) t1
       clear t1
       have t1 := t1_
       clear t1_
       have t2_ := hkp.cell (p := ⟨B9, 2, none⟩) (HK9.out.1.2.2.2) t2
       clear t2
       have t2 := t2_
       clear t2_
       have t3_ := hkp.cell (p := ⟨B9, 3, none⟩) (HK9.out.1.2.2.2) t3
       clear t3
       have t3 := t3_
       clear t3_
       have t4_ := hkp.cell (p := ⟨B9, 4, none⟩) (HK9.out.1.2.2.2) t4
       clear t4
       have t4 := t4_
       clear t4_
       obtain ⟨bs11, hbs11⟩ : ∃ x, x = bs10 ++ encU [0] := ⟨_, rfl⟩
       have hl11 : bs11.length ≤ bs10.length + 10 := by
        rw [hbs11, List.length_append]
        have := encU_len [0]; simp only [List.length_cons, List.length_nil] at this; omega
       rw [← hbs11] at hS
       have HBS11 := Lib.hid hbs11
       have HS11 := Lib.hid (And.intro hS hC)
       obtain ⟨cB1, cB2, cB3, cX1, cX2⟩ := hC
       clear hS hkp hbs11 HS10
       go_wp2_with fail
       refine (lit_int HS11.out.1 cX2 ((HK9.out.1).2.2.1) [A'] _ rfl _ rfl (by simp) (fun n hn => by simp at hn; subst hn; omega) (by omega)).mono ?_
       rintro en w16 ⟨rfl, hS, hkp⟩
       have hC := HS11.out.2.kept hkp (HK9.out.1).1 (HK9.out.1).2.1 (HK9.out.1).2.2.1
       clear cB1 cB2 cB3 cX1 cX2
       have t0_ := hkp.cell (p := ⟨B9, 0, none⟩) (HK9.out.1.2.2.2) t0
       clear t0
       have t0 := t0_
       clear t0_
       have t1_ := hkp.cell (p := ⟨B9, 1, none⟩) (HK9.out.1.2.2.2) t1
       clear t1
       have t1 := t1_
       clear t1_
       have t2_ := hkp.cell (p := ⟨B9, 2, none⟩) (HK9.out.1.2.2.2) t2
       clear t2
       have t2 := t2_
       clear t2_
       have t3_ := hkp.cell (p := ⟨B9, 3, none⟩) (HK9.out.1.2.2.2) t3
       clear t3
       have t3 := t3_
       clear t3_
       have t4_ := hkp.cell (p := ⟨B9, 4, none⟩) (HK9.out.1.2.2.2) t4
       clear t4
       have t4 := t4_
       clear t4_
       obtain ⟨bs12, hbs12⟩ : ∃ x, x = bs11 ++ encI [A'] := ⟨_, rfl⟩
       have hl12 : bs12.length ≤ bs11.length + 10 := by
        rw [hbs12, List.length_append]
        have := encI_len [A']; simp only [List.length_cons, List.length_nil] at this; omega
       rw [← hbs12] at hS
       have HBS12 := Lib.hid hbs12
       have HS12 := Lib.hid (And.intro hS hC)
       obtain ⟨cB1, cB2, cB3, cX1, cX2⟩ := hC
       clear hS hkp hbs12 HS11
       have HTX := Lib.hid (enc_text HS12.out.1 B' (by omega) (by omega))
       go_wp2_with fail
       refine (HTX.out).mono ?_
       rintro en w17 ⟨rfl, hS, hkp⟩
       have hC := HS12.out.2.kept hkp (HK9.out.1).1 (HK9.out.1).2.1 (HK9.out.1).2.2.1
       clear cB1 cB2 cB3 cX1 cX2
       have t0_ := hkp.cell (p := ⟨B9, 0, none⟩) (HK9.out.1.2.2.2) t0
       clear t0
       have t0 := t0_
       clear t0_
       have t1_ := hkp.cell (p := ⟨B9, 1, none⟩) (HK9.out.1.2.2.2) t1
       clear t1
       have t1 := t1_
       clear t1_
       have t2_ := hkp.cell (p := ⟨B9, 2, none⟩) (HK9.out.1.2.2.2) t2
       clear t2
       have t2 := t2_
       clear t2_
       have t3_ := hkp.cell (p := ⟨B9, 3, none⟩) (HK9.out.1.2.2.2) t3
       clear t3
       have t3 := t3_
       clear t3_
       have t4_ := hkp.cell (p := ⟨B9, 4, none⟩) (HK9.out.1.2.2.2) t4
       clear t4
       have t4 := t4_
       clear t4_
       obtain ⟨bs13, hbs13⟩ : ∃ x, x = bs12 ++ encT B' := ⟨_, rfl⟩
       have hl13 : bs13.length ≤ bs12.length + 26 := by
        rw [hbs13, List.length_append]
        have := leb_length B'.length; simp only [encT, List.length_append]; omega
       rw [← hbs13] at hS
       have HBS13 := Lib.hid hbs13
       have HS13 := Lib.hid (And.intro hS hC)
       obtain ⟨cB1, cB2, cB3, cX1, cX2⟩ := hC
       clear hS hkp hbs13 HS12
       go_wp2_with fail
       refine (lit_int HS13.out.1 cX2 ((HK9.out.1).2.2.1) [C', N'] _ rfl _ rfl (by simp) (fun n hn => by simp at hn; rcases hn with rfl | rfl <;> omega) (by omega)).mono ?_
       rintro en w18 ⟨rfl, hS, hkp⟩
       have hC := HS13.out.2.kept hkp (HK9.out.1).1 (HK9.out.1).2.1 (HK9.out.1).2.2.1
       clear cB1 cB2 cB3 cX1 cX2
       have t0_ := hkp.cell (p := ⟨B9, 0, none⟩) (HK9.out.1.2.2.2) t0
       clear t0
       have t0 := t0_
       clear t0_
       have t1_ := hkp.cell (p := ⟨B9, 1, none⟩) (HK9.out.1.2.2.2) t1
       clear t1
       have t1 := t1_
       clear t1_
       have t2_ := hkp.cell (p := ⟨B9, 2, none⟩) (HK9.out.1.2.2.2) t2
       clear t2
       have t2 := t2_
       clear t2_
       have t3_ := hkp.cell (p := ⟨B9, 3, none⟩) (HK9.out.1.2.2.2) t3
       clear t3
       have t3 := t3_
       clear t3_
       have t4_ := hkp.cell (p := ⟨B9, 4, none⟩) (HK9.out.1.2.2.2) t4
       clear t4
       have t4 := t4_
       clear t4_
       obtain ⟨bs14, hbs14⟩ : ∃ x, x = bs13 ++ encI [C', N'] := ⟨_, rfl⟩
       have hl14 : bs14.length ≤ bs13.length + 20 := by
        rw [hbs14, List.length_append]
        have := encI_len [C', N']; simp only [List.length_cons, List.length_nil] at this; omega
       rw [← hbs14] at hS
       have HBS14 := Lib.hid hbs14
       have HS14 := Lib.hid (And.intro hS hC)
       obtain ⟨cB1, cB2, cB3, cX1, cX2⟩ := hC
       clear hS hkp hbs14 HS13
       go_wp2_with fail
       go_roundw
       case rel =>
        refine ⟨k + 1, by have := HX.out.2.1; omega, by go_num, ?_, HS14.out.2⟩
        rw [flat_snoc HX.out.1]
        have h9 := HS14.out.1.less HK9.out.2
        have e9 : bs14 = bs9 ++ ((e.cls.take k).flatMap encCl ++ encCl ⟨false, A', B', C', N'⟩) := by rw [HBS14.out, HBS13.out, HBS12.out, HBS11.out, HBS10.out]; simp [encCl, markOf]
        rw [e9] at h9
        exact h9
       case measure => simp [intOf]; omega
     ·have hkl : k = e.cls.length := by omega
      subst hkl
      rw [List.take_length] at hE
      have hfl := cls_flat e.cls (fun c hc => (HG.out.clo c hc).key_len) e.cls.length
      rw [List.take_length] at hfl
      have hin : bs9 ++ e.cls.flatMap encCl = inside e := by rw [HBS9.out, HBS8.out, HBS7.out, HBS6.out, HBS1.out, HBS0.out]; simp [inside]
      have hil : (inside e).length ≤ 100000 := by rw [← hin, List.length_append]; omega
      rw [hin] at hE
      have HIL := Lib.hid (And.intro hE hil)
      obtain ⟨F, hwr, hF, hbl, _⟩ := hE
      have HWB := Lib.hid (wbytes_ok wr F b (inside e) hwr (by omega))
      clear hwr hF hbl hin hfl hil
      go_wp2_with fail
      refine HWB.out.mono ?_
      rintro en w20 ⟨A9, c9, rfl, hown9, hb9⟩
      rw [List.length_map] at hown9 ⊢
      have hB20 : Below w.heap.size w w20 := (HB1.out.trans (HIL.out.1.bl.mono HB1.out.size)).trans (hb9.mono (HB1.out.trans (HIL.out.1.bl.mono HB1.out.size)).size)
      have HSL := Lib.hid (seal_ok w20 (fun _ => True) A9 (inside e).length c9 (inside e) (HE.out.2.1.below hB20) (Rd.of_own hown9 (fun _ _ => trivial)) (by have := HIL.out.2; omega))
      have HB20 := Lib.hid hB20
      clear hown9 hb9 hB20
      go_wp2_with fail
      refine HSL.out.mono ?_
      rintro en w21 ⟨A10, c10, rfl, hown10, hb10⟩
      have HO := Lib.hid (And.intro hown10 hb10)
      clear hown10 hb10
      go_wp2_with fail
      go_ret2
      exact ⟨HB20.out.trans (HO.out.2.mono HB20.out.size), .inr ⟨HE.out.2.2.2.1, A10, c10, rfl, own_base HO.out.1 (fun g hg => Nat.le_trans HB20.out.size (HO.out.1.lt g hg).1)⟩⟩
 ·have hrn : (r != 0) = true := by simpa using hr0
  have HR := Lib.hid hr0
  clear hr0
  go_wp2_with fail
  go_ret2
  exact ⟨HB1.out, .inl ⟨by rw [HE.out.2.2.2.1]; exact HR.out, by rw [HE.out.2.2.2.1]; rfl⟩⟩
end Go.Proofs.YtagemonojdgbdaaGreatDoor
