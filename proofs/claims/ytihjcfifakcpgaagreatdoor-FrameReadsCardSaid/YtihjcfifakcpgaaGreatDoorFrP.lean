/- frame.each and what it hands back: numbers, one behind the other, into a writer. -/
import Derived.Test.YtihjcfifakcpgaaGreatDoorFld
import Derived.Test.YtihjcfifakcpgaaGreatDoorEqs
import Derived.Test.YtihjcfifakcpgaaGreatDoorFrameC
import Derived.Test.YtihjcfifakcpgaaGreatDoorPla
namespace Go.Proofs.YtihjcfifakcpgaaGreatDoor
set_option maxRecDepth 100000
open Go.RowKit

def encU (ns : List Int) : List UInt8 := ns.flatMap fun n => leb n.toNat
def encI (ns : List Int) : List UInt8 := ns.flatMap fun n => leb (zig n)
theorem encU_len (ns : List Int) : (encU ns).length ≤ 10 * ns.length := by
  induction ns with
  | nil => simp [encU]
  | cons n ns ih =>
    have := leb_length n.toNat
    unfold encU at ih ⊢
    rw [List.flatMap_cons, List.length_append, List.length_cons]
    omega
theorem encI_len (ns : List Int) : (encI ns).length ≤ 10 * ns.length := by
  induction ns with
  | nil => simp [encI]
  | cons n ns ih =>
    have := leb_length (zig n)
    unfold encI at ih ⊢
    rw [List.flatMap_cons, List.length_append, List.length_cons]
    omega
theorem encU_snoc {ns : List Int} {k : Nat} {n : Int} (h : ns[k]? = some n) : encU (ns.take (k + 1)) = encU (ns.take k) ++ leb n.toNat := by
  rw [List.take_add_one, h]
  simp [encU]
theorem encI_snoc {ns : List Int} {k : Nat} {n : Int} (h : ns[k]? = some n) : encI (ns.take (k + 1)) = encI (ns.take k) ++ leb (zig n) := by
  rw [List.take_add_one, h]
  simp [encI]

/-- A writer while numbers are written: nothing else turns. -/
def WrR (w : World) (F : Nat → Prop) (b : Nat) (bs : List UInt8) (w' : World) : Prop := Only F w w' ∧ ∃ F', WrAt w' F' b bs ∧ ∀ k, F' k → F k ∨ w.heap.size ≤ k
theorem WrR.next {w w1 w2 : World} {F F1 : Nat → Prop} {b : Nat} {bs : List UInt8} (h1 : Only F w w1) (hF : ∀ k, F1 k → F k ∨ w.heap.size ≤ k) (h2 : WrR w1 F1 b bs w2) : WrR w F b bs w2 := by
  obtain ⟨ho, F2, hw, hF2⟩ := h2
  refine ⟨h1.trans ho (fun k hk h => (hF k h).resolve_right (by omega)), F2, hw, fun k hk => ?_⟩
  rcases hF2 k hk with h | h
  · exact hF k h
  · exact .inr (Nat.le_trans h1.size h)

set_option maxRecDepth 100000 in
set_option maxHeartbeats 1000000 in
theorem each_uint (w : World) (F G : Nat → Prop) (b X : Nat) (bs : List UInt8) (A : Option Addr) (n c : Nat) (ns : List Int) (h : WrAt w F b bs) (hX : w.cell? ⟨X, 0, none⟩ = some (.func (.func 40) #[.pointer (some ⟨b, 0, none⟩)] #[])) (hXF : ¬ F X)
    (hv : Rd w G (.slice A n c) (ivs ns)) (hG : ∀ k, G k → ¬ F k) (hn : ∀ n ∈ ns, 0 ≤ n ∧ n ≤ 9223372036854775807) (hlen : bs.length + 10 * ns.length ≤ 1000000000) :
    Calls Tryz.prog 68 #[.slice A n c, .pointer (some ⟨X, 0, none⟩)] w fun e w' => e = .returned (.tuple #[]) ∧ WrR w F b (bs ++ encU ns) w' := by
  obtain ⟨hln, hnc, hcm, hx⟩ := ivs_at hv
  subst hln
  unfold maxLen at hcm
  have HX := Lib.hid (And.intro hx (And.intro hn (And.intro hG hXF)))
  have HS := Lib.hid (show WrR w F b (bs ++ encU (ns.take 0)) w from ⟨Only.refl _ _, F, by simpa [encU] using h, fun k hk => .inl hk⟩)
  have hXl := World.block_lt_of_cell? _ _ hX
  have HXC := Lib.hid hX
  clear hx hn hG hXF h hv hX
  go_enter Tryz.func68, Tryz.ntmps68
  go_wp2_with fail
  go_loopw [7] (fun i wr => ∃ k : Nat, k ≤ ns.length ∧ i = .int .i64 (k : Int) ∧ WrR w F b (bs ++ encU (ns.take k)) wr) (fun i _ => ns.length - (intOf i).toNat)
  case atStart => exact ⟨0, Nat.zero_le _, rfl, HS.out⟩
  case round =>
    obtain ⟨k, hk, rfl, hwr⟩ := hrel
    by_cases hlt : k < ns.length
    · obtain ⟨x, hx⟩ : ∃ x, ns[k]? = some x := ⟨_, List.getElem?_eq_getElem hlt⟩
      obtain ⟨ba, oa, rfl, hGb, cx⟩ := HX.out.1 k x hx
      obtain ⟨ho, F1, hw1, hF1⟩ := hwr
      have dx := ho.cell (p := ⟨ba, oa + k, none⟩) cx (HX.out.2.2.1 _ hGb)
      have dX := ho.cell (p := ⟨X, 0, none⟩) HXC.out HX.out.2.2.2
      have hnx := HX.out.2.1 x (List.mem_of_getElem? hx)
      obtain ⟨m, hm⟩ : ∃ m : Nat, x = (m : Int) := ⟨x.toNat, by omega⟩
      subst hm
      have hel := encU_len (ns.take k)
      have htl : (ns.take k).length ≤ ns.length := by simp; omega
      have hu := uint_ok wr F1 b (bs ++ encU (ns.take k)) hw1 m (by omega) (by rw [List.length_append]; omega)
      have HU := Lib.hid (And.intro hu (And.intro ho (And.intro hF1 (encU_snoc hx))))
      clear hu ho hF1 hw1 hx cx hnx hel htl hGb
      go_wp2_with fail
      refine HU.out.1.mono ?_
      rintro e w2 ⟨rfl, ho2, F2, hw2, hF2⟩
      have HN := Lib.hid (WrR.next HU.out.2.1 HU.out.2.2.1 ⟨ho2, F2, hw2, hF2⟩)
      clear ho2 hw2 hF2
      go_wp2_with fail
      go_roundw
      case rel =>
        refine ⟨k + 1, by omega, by go_num, ?_⟩
        rw [HU.out.2.2.2, ← List.append_assoc]
        exact HN.out
      case measure => simp [intOf]; omega
    · obtain rfl : k = ns.length := by omega
      rw [List.take_length] at hwr
      have HN := Lib.hid hwr
      clear hwr
      go_wp2_with fail
      go_end0
      exact ⟨rfl, HN.out⟩

set_option maxRecDepth 100000 in
set_option maxHeartbeats 1000000 in
theorem each_int (w : World) (F G : Nat → Prop) (b X : Nat) (bs : List UInt8) (A : Option Addr) (n c : Nat) (ns : List Int) (h : WrAt w F b bs) (hX : w.cell? ⟨X, 0, none⟩ = some (.func (.func 41) #[.pointer (some ⟨b, 0, none⟩)] #[])) (hXF : ¬ F X)
    (hv : Rd w G (.slice A n c) (ivs ns)) (hG : ∀ k, G k → ¬ F k) (hn : ∀ n ∈ ns, -9223372036854775808 ≤ n ∧ n ≤ 9223372036854775807) (hlen : bs.length + 10 * ns.length ≤ 1000000000) :
    Calls Tryz.prog 68 #[.slice A n c, .pointer (some ⟨X, 0, none⟩)] w fun e w' => e = .returned (.tuple #[]) ∧ WrR w F b (bs ++ encI ns) w' := by
  obtain ⟨hln, hnc, hcm, hx⟩ := ivs_at hv
  subst hln
  unfold maxLen at hcm
  have HX := Lib.hid (And.intro hx (And.intro hn (And.intro hG hXF)))
  have HS := Lib.hid (show WrR w F b (bs ++ encI (ns.take 0)) w from ⟨Only.refl _ _, F, by simpa [encI] using h, fun k hk => .inl hk⟩)
  have hXl := World.block_lt_of_cell? _ _ hX
  have HXC := Lib.hid hX
  clear hx hn hG hXF h hv hX
  go_enter Tryz.func68, Tryz.ntmps68
  go_wp2_with fail
  go_loopw [7] (fun i wr => ∃ k : Nat, k ≤ ns.length ∧ i = .int .i64 (k : Int) ∧ WrR w F b (bs ++ encI (ns.take k)) wr) (fun i _ => ns.length - (intOf i).toNat)
  case atStart => exact ⟨0, Nat.zero_le _, rfl, HS.out⟩
  case round =>
    obtain ⟨k, hk, rfl, hwr⟩ := hrel
    by_cases hlt : k < ns.length
    · obtain ⟨x, hx⟩ : ∃ x, ns[k]? = some x := ⟨_, List.getElem?_eq_getElem hlt⟩
      obtain ⟨ba, oa, rfl, hGb, cx⟩ := HX.out.1 k x hx
      obtain ⟨ho, F1, hw1, hF1⟩ := hwr
      have dx := ho.cell (p := ⟨ba, oa + k, none⟩) cx (HX.out.2.2.1 _ hGb)
      have dX := ho.cell (p := ⟨X, 0, none⟩) HXC.out HX.out.2.2.2
      have hnx := HX.out.2.1 x (List.mem_of_getElem? hx)
      have hel := encI_len (ns.take k)
      have htl : (ns.take k).length ≤ ns.length := by simp; omega
      have hu := int_ok wr F1 b (bs ++ encI (ns.take k)) hw1 x hnx.1 hnx.2 (by rw [List.length_append]; omega)
      have HU := Lib.hid (And.intro hu (And.intro ho (And.intro hF1 (encI_snoc hx))))
      clear hu ho hF1 hw1 hx cx hnx hel htl hGb
      go_wp2_with fail
      refine HU.out.1.mono ?_
      rintro e w2 ⟨rfl, ho2, F2, hw2, hF2⟩
      have HN := Lib.hid (WrR.next HU.out.2.1 HU.out.2.2.1 ⟨ho2, F2, hw2, hF2⟩)
      clear ho2 hw2 hF2
      go_wp2_with fail
      go_roundw
      case rel =>
        refine ⟨k + 1, by omega, by go_num, ?_⟩
        rw [HU.out.2.2.2, ← List.append_assoc]
        exact HN.out
      case measure => simp [intOf]; omega
    · obtain rfl : k = ns.length := by omega
      rw [List.take_length] at hwr
      have HN := Lib.hid hwr
      clear hwr
      go_wp2_with fail
      go_end0
      exact ⟨rfl, HN.out⟩
end Go.Proofs.YtihjcfifakcpgaaGreatDoor

/- An entry's bytes: plain. -/
namespace Go.Proofs.YtihjcfifakcpgaaGreatDoor
set_option maxRecDepth 100000

def encOp (o : POp) : List UInt8 := encU [o.d, o.a, o.b] ++ (encI [o.c] ++ encU [o.n])
def markOf (c : Cl) : Int := if c.wr then 1 else 0
def encT (s : List UInt8) : List UInt8 := leb s.length ++ s
def encCl (c : Cl) : List UInt8 := encU [markOf c] ++ (encI [c.col] ++ (encT c.key ++ encI [c.lo, c.hi]))
/-- An entry's bytes, without the sum. -/
def inside (e : FE) : List UInt8 := encU [e.id, (e.ops.length : Int)] ++ (e.ops.flatMap encOp ++ (encU [(e.args.length : Int)] ++ (encI e.args ++ (encU [(e.cls.length : Int)] ++ e.cls.flatMap encCl))))

theorem encOp_len (o : POp) : (encOp o).length ≤ 50 := by
  unfold encOp
  have h1 := encU_len [o.d, o.a, o.b]
  have h2 := encI_len [o.c]
  have h3 := encU_len [o.n]
  simp only [List.length_append, List.length_cons, List.length_nil] at *
  omega
theorem encCl_len (c : Cl) : (encCl c).length ≤ 50 + c.key.length := by
  unfold encCl encT
  have h1 := encU_len [markOf c]
  have h2 := encI_len [c.col]
  have h3 := encI_len [c.lo, c.hi]
  have h4 := leb_length c.key.length
  simp only [List.length_append, List.length_cons, List.length_nil] at *
  omega
theorem flat_le {α : Type} {f : α → List UInt8} {m : Nat} {l : List α} (h : ∀ x ∈ l, (f x).length ≤ m) : (l.flatMap f).length ≤ m * l.length := by
  induction l with
  | nil => simp
  | cons x l ih =>
    have h1 := h x (by simp)
    have h2 := ih (fun y hy => h y (by simp [hy]))
    rw [List.flatMap_cons, List.length_append, List.length_cons, Nat.mul_succ]
    omega
theorem flat_snoc {α : Type} {f : α → List UInt8} {l : List α} {k : Nat} {x : α} (h : l[k]? = some x) : (l.take (k + 1)).flatMap f = (l.take k).flatMap f ++ f x := by
  rw [List.take_add_one, h]
  simp
theorem ops_flat (l : List POp) (k : Nat) : ((l.take k).flatMap encOp).length ≤ 50 * k := by
  have h1 := flat_le (f := encOp) (m := 50) (l := l.take k) (fun x _ => encOp_len x)
  have h2 : (l.take k).length ≤ k := by simp; omega
  exact Nat.le_trans h1 (Nat.mul_le_mul_left 50 h2)
theorem cls_flat (l : List Cl) (hl : ∀ c ∈ l, c.key.length ≤ 16) (k : Nat) : ((l.take k).flatMap encCl).length ≤ 66 * k := by
  have h1 := flat_le (f := encCl) (m := 66) (l := l.take k) (fun x hx => by have := encCl_len x; have := hl x (List.mem_of_mem_take hx); omega)
  have h2 : (l.take k).length ≤ k := by simp; omega
  exact Nat.le_trans h1 (Nat.mul_le_mul_left 66 h2)

/-- What is so of an entry with which nothing is wrong. -/
structure FE.Good (e : FE) : Prop where
  id0 : 0 ≤ e.id
  id1 : e.id ≤ 1099511627776
  opl : e.ops.length ≤ 64
  ops : opsE e.ops = 0
  opb : ∀ o ∈ e.ops, (0 ≤ o.d ∧ o.d ≤ 15) ∧ (0 ≤ o.a ∧ o.a ≤ 7) ∧ (0 ≤ o.b ∧ o.b ≤ 7) ∧ (-1099511627776 ≤ o.c ∧ o.c ≤ 1099511627776) ∧ (0 ≤ o.n ∧ o.n ≤ 1099511627776)
  arl : e.args.length ≤ 8
  arb : ∀ n ∈ e.args, -1099511627776 ≤ n ∧ n ≤ 1099511627776
  cll : e.cls.length ≤ 64
  clo : ∀ c ∈ e.cls, Ok c
  clf : IsForm e.cls e.cls
theorem opsE_zero {l : List POp} (h : opsE l = 0) : l.length ≤ 64 ∧ l.all formedB = true ∧ l.all rangedB = true ∧ nestedB l = true := by
  unfold opsE at h
  split at h
  · simp at h
  · split at h
    · simp at h
    · split at h
      · simp at h
      · split at h
        · simp at h
        · rename_i h1 h2 h3 h4
          exact ⟨by omega, by simpa using h2, by simpa using h3, by simpa using h4⟩
theorem fld_bd {o : POp} (h1 : formedB o = true) (h2 : rangedB o = true) : (0 ≤ o.d ∧ o.d ≤ 15) ∧ (0 ≤ o.a ∧ o.a ≤ 7) ∧ (0 ≤ o.b ∧ o.b ≤ 7) ∧ (-1099511627776 ≤ o.c ∧ o.c ≤ 1099511627776) ∧ (0 ≤ o.n ∧ o.n ≤ 1099511627776) := by
  have hd := formed_do h1
  have key : ∀ i, i < 4 → (o.fld i = 0) ∨ (loF o.d i ≤ o.fld i ∧ o.fld i ≤ hiF o.d i) := by
    intro i hi
    unfold formedB at h1
    unfold rangedB at h2
    rw [Bool.and_eq_true, List.all_eq_true] at h1
    rw [List.all_eq_true] at h2
    have a1 := h1.2 i (List.mem_range.2 hi)
    have a2 := h2 i (List.mem_range.2 hi)
    cases hh : hasF o.d i with
    | true => rw [hh] at a2; simp at a2; exact .inr a2
    | false => rw [hh] at a1; simp at a1; exact .inl a1
  have k0 := key 0 (by decide)
  have k1 := key 1 (by decide)
  have k2 := key 2 (by decide)
  have k3 := key 3 (by decide)
  have e0 : o.fld 0 = o.a := rfl
  have e1 : o.fld 1 = o.b := rfl
  have e2 : o.fld 2 = o.c := rfl
  have e3 : o.fld 3 = o.n := rfl
  rw [e0] at k0
  rw [e1] at k1
  rw [e2] at k2
  rw [e3] at k3
  have l0 : loF o.d 0 = 0 ∧ hiF o.d 0 ≤ 7 := by simp [loF, hiF]; split <;> omega
  have l1 : loF o.d 1 = 0 ∧ hiF o.d 1 = 7 := by simp [loF, hiF]
  have l2 : -1099511627776 ≤ loF o.d 2 ∧ hiF o.d 2 ≤ 1099511627776 := by
    simp [loF, hiF]
    constructor
    · split <;> omega
    · split
      · omega
      · split <;> omega
  have l3 : loF o.d 3 = 0 ∧ hiF o.d 3 ≤ 1099511627776 := by simp [loF, hiF]; split <;> omega
  refine ⟨by omega, by omega, by omega, by omega, by omega⟩
theorem clsE_zero {l : List Cl} (h : clsE l = 0) : (∀ c ∈ l, Ok c) ∧ IsForm l l ∧ l.length ≤ 64 := by
  unfold clsE at h
  split at h
  · rename_i h1; exact absurd h h1
  · rename_i h1
    split at h
    · simp at h
    · rename_i h2
      split at h
      · rename_i h3
        refine ⟨?_, h3, ?_⟩
        · have h0 : errOf l = 0 := by simpa using h1
          unfold errOf at h0
          split at h0
          · rename_i c hc
            have := List.find?_some hc
            simp at this
            exact absurd h0 this
          · rename_i hc
            rw [List.find?_eq_none] at hc
            intro c hcm
            have := hc c hcm
            simpa [Ok] using this
        · rcases Nat.lt_or_ge 64 l.length with h4 | h4
          · exact absurd ⟨l, h3, h4⟩ h2
          · exact h4
      · simp at h
theorem entE_zero {e : FE} (h : entE e = 0) : e.Good := by
  unfold entE at h
  split at h
  · rename_i h1; exact absurd h h1
  · rename_i h1
    have h0 : entE0 e = 0 := by simpa using h1
    unfold entE0 at h0
    split at h0
    · simp at h0
    · rename_i hid
      unfold entE1 at h0
      split at h0
      · rename_i h2; exact absurd h0 h2
      · rename_i h2
        have ho : opsE e.ops = 0 := by simpa using h2
        unfold entE2 at h0
        split at h0
        · simp at h0
        · rename_i ha
          split at h0
          · simp at h0
          · rename_i hb
            have hb' : argsOk e.args = true := by simpa using hb
            unfold argsOk at hb'
            rw [List.all_eq_true] at hb'
            obtain ⟨o1, o2, o3, o4⟩ := opsE_zero ho
            rw [List.all_eq_true] at o2 o3
            obtain ⟨c1, c2, c3⟩ := clsE_zero h
            exact { id0 := by omega, id1 := by omega, opl := o1, ops := ho, opb := fun o hm => fld_bd (o2 o hm) (o3 o hm), arl := by omega, arb := fun n hn => by have := hb' n hn; rw [Bool.and_eq_true, decide_eq_true_iff, decide_eq_true_iff] at this; exact this, cll := c3, clo := c1, clf := c2 }
theorem Good.of_form {e : FE} (h : e.Good) : entE e = 0 := by
  have h1 : entE0 e = 0 := by
    unfold entE0 entE1 entE2
    rw [if_neg (by have := h.id0; have := h.id1; omega), if_neg (by rw [h.ops]; simp), if_neg (by have := h.arl; omega), if_neg]
    intro hb
    unfold argsOk at hb
    rw [Bool.eq_false_iff] at hb
    apply hb
    rw [List.all_eq_true]
    intro n hn
    have := h.arb n hn
    rw [Bool.and_eq_true, decide_eq_true_iff, decide_eq_true_iff]
    exact this
  rw [entE_cls h1, clsE_form (errOf_ok h.clo) h.clf h.cll, if_pos rfl]
theorem Ok.key_len {c : Cl} (h : Ok c) : c.key.length ≤ 16 := by
  rcases h.parts with ⟨_, _, _, _, h5⟩ | ⟨_, _, h3, _⟩
  · exact h5
  · rw [h3]; simp
end Go.Proofs.YtihjcfifakcpgaaGreatDoor
