/- serial.Judge: which outcome an entry has, by the result of its run; the kinds of ends. -/
import Derived.Test.YtifpaagppjmbhaaGreatDoorJudP
import Derived.Test.YtifpaagppjmbhaaGreatDoorLockA
import Derived.Test.YtifpaagppjmbhaaGreatDoorSerB
namespace Go.Proofs.YtifpaagppjmbhaaGreatDoor
set_option maxRecDepth 100000
open Go.RowKit Go.Maps Go.WideShapes

theorem lawEr : Keyed Tryz.prog 25 := int_keyed Tryz.underlying25
theorem keyEr {i : Int} (h : I64 i) : keyOf Tryz.prog 25 (.int .i64 i) = some (.int .i64 i) := keyOf_int_mk Tryz.underlying25 (wf_i h)
theorem updK (g : Value → Option Value) (a x : Int) (v : Value) : updM g (.int .i64 a) (some v) (.int .i64 x) = if x = a then some v else g (.int .i64 x) := by
  by_cases h : x = a
  · subst h
    rw [updM_same, if_pos rfl]
  · rw [updM_other _ _ (fun e => h (by injection e)), if_neg h]
theorem below_mapped {w w1 w2 : World} {M : Nat} (hb : Below w.heap.size w w1) (hM : w.heap.size ≤ M) (ho : Only (fun k => k = M) w1 w2) : Below w.heap.size w w2 :=
  hb.trans (ho.belowN hb.size (fun k hk e => by omega))
theorem wpList_insert {P : Program} (w : World) {ops : Array Oper} {rest : List Oper} {o : Oper} {a : Act} {Q : Exit → Act → World → Prop} (hg : o.guard = none) (m x v : Operand) (t : TypeId) (hop : o.op = Op.insert t m x v) {K e : TypeId} (L : Keyed P K) (ht : P.underlying t = some (.map K e)) {b n : Nat} {g : Value → Option Value}
    (hm : a.eval m = .map (some b)) (hown : MapAt P w K b n g) (hn : n < maxLen) {key val : Value} {kl : Lit} (hx : a.eval x = key) (hv : a.eval v = val) (hkey : keyOf P K key = some kl)
    (hK : ∀ w', MapAt P w' K b (n + 1) (updM g key (some val)) → Only (fun k => k = b) w w' → wpList P ops Q rest (a.put o.dst undef) w') : wpList P ops Q (o :: rest) a w := by
  refine wpList_plain hg fun K' hK' => ?_
  obtain ⟨w', hrun, r1, r2⟩ := hown.store L ht hn (val := val) hkey
  unfold Oper.wp
  simp [execOp, hop, hm, hx, hv, hrun, Result.andThen]
  exact hK' _ _ (hK w' r1 r2)
/-- What kinds answers. -/
def KindsP (w : World) (e : Ending) (w' : World) : Prop := ∃ M g, e = .returned (.map (some M)) ∧ Below w.heap.size w w' ∧ MapAt Tryz.prog w' 25 M 6 g ∧ ∀ x : Int, (g (.int .i64 x)).getD (.int .i64 0) = .int .i64 (endK x)
set_option maxRecDepth 100000 in
theorem kinds_ok (w : World) : Calls Tryz.prog 87 #[] w (KindsP w) := by
  have hmm := @run_makeMap Tryz.prog
  have hb := new_box w (.map #[] 0)
  have hm := MapAt.made Tryz.prog w 25
  have HL := Lib.hid (Nat.le_refl w.heap.size)
  go_enter Tryz.func87, Tryz.ntmps87
  go_wp2_with ((refine wpList_insert _ rfl _ _ _ 208 rfl lawEr Tryz.underlying208 rfl hm (by unfold maxLen; omega) rfl rfl (keyEr (by unfold I64; omega)) ?_); intro wn hn ho; have hb := below_mapped hb HL.out ho; have hm := hn)
  go_ret
  refine ⟨w.heap.size, (updM (updM (updM (updM (updM (updM (fun _ => none) (.int .i64 0) (some (.int .i64 1))) (.int .i64 19) (some (.int .i64 2))) (.int .i64 21) (some (.int .i64 3))) (.int .i64 20) (some (.int .i64 4))) (.int .i64 16) (some (.int .i64 5))) (.int .i64 23) (some (.int .i64 6))), rfl, hb, hm, fun x => ?_⟩
  simp only [updK]
  unfold endK
  by_cases h0 : x = 0
  · subst h0; rfl
  by_cases h1 : x = 19
  · subst h1; rfl
  by_cases h2 : x = 21
  · subst h2; rfl
  by_cases h3 : x = 20
  · subst h3; rfl
  by_cases h4 : x = 16
  · subst h4; rfl
  by_cases h5 : x = 23
  · subst h5; rfl
  rw [if_neg h5, if_neg h4, if_neg h3, if_neg h2, if_neg h1, if_neg h0, if_neg h0, if_neg h1, if_neg h2, if_neg h3, if_neg h4, if_neg h5]
  rfl
set_option maxRecDepth 100000 in
theorem kind15_ok (w : World) (e : Int) : Calls Tryz.prog 50 #[.int .i64 e] w fun x w' => x = .returned (.int .i64 (refK e)) ∧ w' = w := by
  by_cases h0 : e = 0
  · subst h0
    go_enter Tryz.func50, Tryz.ntmps50
    go_wp2_with fail
    go_ret
    exact ⟨rfl, rfl⟩
  by_cases h1 : e = 19
  · subst h1
    go_enter Tryz.func50, Tryz.ntmps50
    go_wp2_with fail
    go_ret
    exact ⟨rfl, rfl⟩
  by_cases h2 : e = 20
  · subst h2
    go_enter Tryz.func50, Tryz.ntmps50
    go_wp2_with fail
    go_ret
    exact ⟨rfl, rfl⟩
  by_cases h3 : e = 16
  · subst h3
    go_enter Tryz.func50, Tryz.ntmps50
    go_wp2_with fail
    go_ret
    exact ⟨rfl, rfl⟩
  by_cases h4 : e = 23
  · subst h4
    go_enter Tryz.func50, Tryz.ntmps50
    go_wp2_with fail
    go_ret
    exact ⟨rfl, rfl⟩
  go_enter Tryz.func50, Tryz.ntmps50
  go_wp2_with fail
  go_ret
  exact ⟨by unfold refK; rw [if_neg h0, if_neg h1, if_neg h2, if_neg h3, if_neg h4]; rfl, rfl⟩
end Go.Proofs.YtifpaagppjmbhaaGreatDoor
