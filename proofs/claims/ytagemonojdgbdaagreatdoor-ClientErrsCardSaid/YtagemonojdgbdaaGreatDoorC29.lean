import Derived.Test.YtagemonojdgbdaaGreatDoorC26
import Derived.Test.YtagemonojdgbdaaGreatDoorC28
namespace Go.Proofs.YtagemonojdgbdaaGreatDoor
set_option maxRecDepth 100000
open Go.RowKit
def encU (ns : List Int) : List UInt8 := ns.flatMap fun n => leb n.toNat
def encI (ns : List Int) : List UInt8 := ns.flatMap fun n => leb (zig n)
theorem encU_len (ns : List Int) : (encU ns).length ≤ 10 * ns.length := by
 induction ns with
 | nil => simp [encU]
 | cons n ns ih =>
  have := leb_length n.toNat
  unfold encU at ih ⊢
  rw [List.flatMap_cons, List.length_append, List.length_cons]
  omega
theorem encI_len (ns : List Int) : (encI ns).length ≤ 10 * ns.length := by
 induction ns with
 | nil => simp [encI]
 | cons n ns ih =>
  have := leb_length (zig n)
  unfold encI at ih ⊢
  rw [List.flatMap_cons, List.length_append, List.length_cons]
  omega
theorem encU_snoc {ns : List Int} {k : Nat} {n : Int} (h : ns[k]? = some n) : encU (ns.take (k + 1)) = encU (ns.take k) ++ leb n.toNat := by
 rw [List.take_add_one, h]
 simp [encU]
theorem encI_snoc {ns : List Int} {k : Nat} {n : Int} (h : ns[k]? = some n) : encI (ns.take (k + 1)) = encI (ns.take k) ++ leb (zig n) := by
 rw [List.take_add_one, h]
 simp [encI]
def WrR (w : World) (F : Nat → Prop) (b : Nat) (bs : List UInt8) (w' : World) : Prop := Only F w w' ∧ ∃ F', WrAt w' F' b bs ∧ ∀ k, F' k → F k ∨ w.heap.size ≤ k
theorem WrR.next {w w1 w2 : World} {F F1 : Nat → Prop} {b : Nat} {bs : List UInt8} (h1 : Only F w w1) (hF : ∀ k, F1 k → F k ∨ w.heap.size ≤ k) (h2 : WrR w1 F1 b bs w2) : WrR w F b bs w2 := by
 obtain ⟨ho, F2, hw, hF2⟩ := h2
 refine ⟨h1.trans ho (fun k hk h => (hF k h).resolve_right (by omega)), F2, hw, fun k hk => ?_⟩
 rcases hF2 k hk with h | h
 ·exact hF k h
 ·exact .inr (Nat.le_trans h1.size h)
set_option maxHeartbeats 1000000 in
theorem each_uint (w : World) (F G : Nat → Prop) (b X : Nat) (bs : List UInt8) (A : Option Addr) (n c : Nat) (ns : List Int) (h : WrAt w F b bs) (hX : w.cell? ⟨X, 0, none⟩ = some (.func (.func 78) #[.pointer (some ⟨b, 0, none⟩)] #[])) (hXF : ¬ F X)
  (hv : Rd w G (.slice A n c) (ivs ns)) (hG : ∀ k, G k → ¬ F k) (hn : ∀ n ∈ ns, 0 ≤ n ∧ n ≤ 9223372036854775807) (hlen : bs.length + 10 * ns.length ≤ 1000000000) :
  Calls Tryz.prog 122 #[.slice A n c, .pointer (some ⟨X, 0, none⟩)] w fun e w' => e = .returned (.tuple #[]) ∧ WrR w F b (bs ++ encU ns) w' := by
 obtain ⟨hln, hnc, hcm, hx⟩ := ivs_at hv
 subst hln
 unfold maxLen at hcm
 have HX := Lib.hid (And.intro hx (And.intro hn (And.intro hG hXF)))
 have HS := Lib.hid (show WrR w F b (bs ++ encU (ns.take 0)) w from ⟨Only.refl _ _, F, by simpa [encU] using h, fun k hk => .inl hk⟩)
 have hXl := World.block_lt_of_cell? _ _ hX
 have HXC := Lib.hid hX
 clear hx hn hG hXF h hv hX
 go_enter Tryz.func122, Tryz.ntmps122
 go_wp2_with fail
 go_loopw [7] (fun i wr => ∃ k : Nat, k ≤ ns.length ∧ i = .int .i64 (k : Int) ∧ WrR w F b (bs ++ encU (ns.take k)) wr) (fun i _ => ns.length - (intOf i).toNat)
 case atStart => exact ⟨0, Nat.zero_le _, rfl, HS.out⟩
 case round =>
  obtain ⟨k, hk, rfl, hwr⟩ := hrel
  by_cases hlt : k < ns.length
  ·obtain ⟨x, hx⟩ : ∃ x, ns[k]? = some x := ⟨_, List.getElem?_eq_getElem hlt⟩
   obtain ⟨ba, oa, rfl, hGb, cx⟩ := HX.out.1 k x hx
   obtain ⟨ho, F1, hw1, hF1⟩ := hwr
   have dx := ho.cell (p := ⟨ba, oa + k, none⟩) cx (HX.out.2.2.1 _ hGb)
   have dX := ho.cell (p := ⟨X, 0, none⟩) HXC.out HX.out.2.2.2
   have hnx := HX.out.2.1 x (List.mem_of_getElem? hx)
   obtain ⟨m, hm⟩ : ∃ m : Nat, x = (m : Int) := ⟨x.toNat, by omega⟩
   subst hm
   have hel := encU_len (ns.take k)
   have htl : (ns.take k).length ≤ ns.length := by simp; omega
   have hu := uint_ok wr F1 b (bs ++ encU (ns.take k)) hw1 m (by omega) (by rw [List.length_append]; omega)
   have HU := Lib.hid (And.intro hu (And.intro ho (And.intro hF1 (encU_snoc hx))))
   clear hu ho hF1 hw1 hx cx hnx hel htl hGb
   go_wp2_with fail
   refine HU.out.1.mono ?_
   rintro e w2 ⟨rfl, ho2, F2, hw2, hF2⟩
   have HN := Lib.hid (WrR.next HU.out.2.1 HU.out.2.2.1 ⟨ho2, F2, hw2, hF2⟩)
   clear ho2 hw2 hF2
   go_wp2_with fail
   go_roundw
   case rel =>
    refine ⟨k + 1, by omega, by go_num, ?_⟩
    rw [HU.out.2.2.2, ← List.append_assoc]
    exact HN.out
   case measure => simp [intOf]; omega
  ·obtain rfl : k = ns.length := by omega
   rw [List.take_length] at hwr
   have HN := Lib.hid hwr
   clear hwr
   go_wp2_with fail
   go_end0
   exact ⟨rfl, HN.out⟩
set_option maxHeartbeats 1000000 in
theorem each_int (w : World) (F G : Nat → Prop) (b X : Nat) (bs : List UInt8) (A : Option Addr) (n c : Nat) (ns : List Int) (h : WrAt w F b bs) (hX : w.cell? ⟨X, 0, none⟩ = some (.func (.func 79) #[.pointer (some ⟨b, 0, none⟩)] #[])) (hXF : ¬ F X)
  (hv : Rd w G (.slice A n c) (ivs ns)) (hG : ∀ k, G k → ¬ F k) (hn : ∀ n ∈ ns, -9223372036854775808 ≤ n ∧ n ≤ 9223372036854775807) (hlen : bs.length + 10 * ns.length ≤ 1000000000) :
  Calls Tryz.prog 122 #[.slice A n c, .pointer (some ⟨X, 0, none⟩)] w fun e w' => e = .returned (.tuple #[]) ∧ WrR w F b (bs ++ encI ns) w' := by
 obtain ⟨hln, hnc, hcm, hx⟩ := ivs_at hv
 subst hln
 unfold maxLen at hcm
 have HX := Lib.hid (And.intro hx (And.intro hn (And.intro hG hXF)))
 have HS := Lib.hid (show WrR w F b (bs ++ encI (ns.take 0)) w from ⟨Only.refl _ _, F, by simpa [encI] using h, fun k hk => .inl hk⟩)
 have hXl := World.block_lt_of_cell? _ _ hX
 have HXC := Lib.hid hX
 clear hx hn hG hXF h hv hX
 go_enter Tryz.func122, Tryz.ntmps122
 go_wp2_with fail
 go_loopw [7] (fun i wr => ∃ k : Nat, k ≤ ns.length ∧ i = .int .i64 (k : Int) ∧ WrR w F b (bs ++ encI (ns.take k)) wr) (fun i _ => ns.length - (intOf i).toNat)
 case atStart => exact ⟨0, Nat.zero_le _, rfl, HS.out⟩
 case round =>
  obtain ⟨k, hk, rfl, hwr⟩ := hrel
  by_cases hlt : k < ns.length
  ·obtain ⟨x, hx⟩ : ∃ x, ns[k]? = some x := ⟨_, List.getElem?_eq_getElem hlt⟩
   obtain ⟨ba, oa, rfl, hGb, cx⟩ := HX.out.1 k x hx
   obtain ⟨ho, F1, hw1, hF1⟩ := hwr
   have dx := ho.cell (p := ⟨ba, oa + k, none⟩) cx (HX.out.2.2.1 _ hGb)
   have dX := ho.cell (p := ⟨X, 0, none⟩) HXC.out HX.out.2.2.2
   have hnx := HX.out.2.1 x (List.mem_of_getElem? hx)
   have hel := encI_len (ns.take k)
   have htl : (ns.take k).length ≤ ns.length := by simp; omega
   have hu := int_ok wr F1 b (bs ++ encI (ns.take k)) hw1 x hnx.1 hnx.2 (by rw [List.length_append]; omega)
   have HU := Lib.hid (And.intro hu (And.intro ho (And.intro hF1 (encI_snoc hx))))
   clear hu ho hF1 hw1 hx cx hnx hel htl hGb
   go_wp2_with fail
   refine HU.out.1.mono ?_
   rintro e w2 ⟨rfl, ho2, F2, hw2, hF2⟩
   have HN := Lib.hid (WrR.next HU.out.2.1 HU.out.2.2.1 ⟨ho2, F2, hw2, hF2⟩)
   clear ho2 hw2 hF2
   go_wp2_with fail
   go_roundw
   case rel =>
    refine ⟨k + 1, by omega, by go_num, ?_⟩
    rw [HU.out.2.2.2, ← List.append_assoc]
    exact HN.out
   case measure => simp [intOf]; omega
  ·obtain rfl : k = ns.length := by omega
   rw [List.take_length] at hwr
   have HN := Lib.hid hwr
   clear hwr
   go_wp2_with fail
   go_end0
   exact ⟨rfl, HN.out⟩
end Go.Proofs.YtagemonojdgbdaaGreatDoor
