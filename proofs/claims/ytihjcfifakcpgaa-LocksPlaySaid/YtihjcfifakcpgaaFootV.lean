/- Join, the chapter's example, Few. -/
import Derived.Test.YtihjcfifakcpgaaFootR
import Derived.Test.YtihjcfifakcpgaaFootU
namespace Go.Proofs.Ytihjcfifakcpgaa
open Go.RowKit

/-- A block that holds claims, one behind the other, reads as them. -/
theorem cl_of_block {w : World} {b : Nat} {l : List Cl} {cs : Array Value} {t : TypeId} {F : Nat → Prop} (h : w.heap[b]? = some (.cells cs t (0, 0))) (he : cs.toList = (l.map Cl.cells).flatten) (hF : F b) (hl : l.length ≤ maxLen) : ClRd w F (.slice (some ⟨b, 0, none⟩) l.length l.length) l := by
  refine ⟨_, _, _, rfl, by simp, Nat.le_refl _, hl, fun _ => ⟨b, 0, rfl, hF, fun i x hi j u hj => ?_⟩⟩
  have h1 := flat_at (cl_len l) i x hi j u hj
  rw [← he] at h1
  rw [Nat.zero_add]
  simp [World.cell?, h]
  simpa using h1

theorem fresh_rd {l : List Cl} {w' : World} {base : Nat} {A : Option Addr} {c : Nat} (h : w'.ownsRow base 52 5 (.slice A l.length c) l.length (l.map Cl.cells).flatten) : ClRd w' (fun _ => True) (.slice A l.length c) l :=
  RdK.of_own h (cl_len _) (by decide) (fun _ _ => trivial)

theorem step_append_rdk {P : Program} {w : World} {ops : Array Oper} {o : Oper} {a : Act} {K : Act → World → Prop} {Q : Exit → Act → World → Prop} {E : Prop} (hgd : o.guard = none) (s x : Operand) (t : TypeId)
    (ho : o.op = .call { callee := .builtin .append, args := #[s, x], argTypes := #[t, t] })
    (base : Nat) (e : TypeId) (i : TypeInfo) (z : Value) (k bytes : Nat) (ht : P.underlying t = some (.slice e)) (hi : P.info? e = some i) (hz : i.zero = some z)
    (hsize : i.size = k) (hby : i.bytes = bytes) (hzs : z.cells.size = k) (hk0 : 0 < k)
    (v : Value) (n : Nat) (xs : List Value) (hs : a.eval s = v) (hown : w.ownsRow base e k v n xs) (F : Nat → Prop) (vx : Value) (news : List (List Value)) (hx : a.eval x = vx) (hr : RdK k w F vx news) (hk : ∀ y ∈ news, y.length = k) (h1 : ∀ u ∈ news.flatten, u.oneCell' = true)
    (hbytes : (n + news.length) * bytes ≤ 140737488355328) (h63 : n + news.length ≤ maxLen) (hbase : base ≤ w.heap.size)
    (h : ∀ v' w', w'.ownsRow base e k v' (n + news.length) (xs ++ news.flatten) → w.grownBy w' v.ownBlock → (v'.ownBlock = v.ownBlock ∨ v'.ownBlock = some w.heap.size) → K (a.put o.dst v') w') :
    if Region.wanted o (yielded ops a.tmps) = true then Oper.wp P o a w K Q else E := by
  have hw : Region.wanted o (yielded ops a.tmps) = true := by simp [Region.wanted, hgd]
  rw [if_pos hw]
  obtain ⟨v', w', hrun, h2, h3, h4⟩ := run_append_rdk (P := P) w base t o.type e i z k bytes ht hi hz hsize hby hzs hk0 v n xs hown F vx news hr hk h1 hbytes h63 hbase
  unfold Oper.wp execOp
  simp only [ho, resolve, invoke, builtin, Sem.run_bind, Sem.run_pure, Result.andThen_ok, List.map_toArray, List.map_cons, List.map_nil, hs, hx, hrun]
  exact h v' w' h2 h3 h4

/-- What New hands back, with names for what lies in the result. -/
def NewV (l : List Cl) (w : World) (v : Value) (n : Int) (w' : World) : Prop :=
  Below w.heap.size w w' ∧ ((errOf l ≠ 0 ∧ v = .slice none 0 0 ∧ n = errOf l) ∨ (errOf l = 0 ∧ ∃ out, IsForm l out ∧ ((64 < out.length ∧ v = .slice none 0 0 ∧ n = 23) ∨
    (out.length ≤ 64 ∧ n = 0 ∧ ∃ A c, v = .slice A out.length c ∧ w'.ownsRow w.heap.size 52 5 (.slice A out.length c) out.length (out.map Cl.cells).flatten))))
theorem NewP.named {l : List Cl} {w w' : World} {e : Ending} (h : NewP l w e w') : ∃ v n, e = .returned (.tuple #[.agg #[v], .int .i64 n]) ∧ NewV l w v n w' := by
  obtain ⟨hb, ⟨h1, rfl⟩ | ⟨h1, out, h2, ⟨h3, rfl⟩ | ⟨h3, A, c, rfl, h4⟩⟩⟩ := h
  · exact ⟨_, _, rfl, hb, .inl ⟨h1, rfl, rfl⟩⟩
  · exact ⟨_, _, rfl, hb, .inr ⟨h1, out, h2, .inl ⟨h3, rfl, rfl⟩⟩⟩
  · exact ⟨_, _, rfl, hb, .inr ⟨h1, out, h2, .inr ⟨h3, rfl, A, c, rfl, h4⟩⟩⟩
theorem NewV.unname {l : List Cl} {w w' : World} {v : Value} {n : Int} (h : NewV l w v n w') : NewP l w (.returned (.tuple #[.agg #[v], .int .i64 n])) w' := by
  obtain ⟨hb, ⟨h1, rfl, rfl⟩ | ⟨h1, out, h2, ⟨h3, rfl, rfl⟩ | ⟨h3, rfl, A, c, rfl, h4⟩⟩⟩ := h
  · exact ⟨hb, .inl ⟨h1, rfl⟩⟩
  · exact ⟨hb, .inr ⟨h1, out, h2, .inl ⟨h3, rfl⟩⟩⟩
  · exact ⟨hb, .inr ⟨h1, out, h2, .inr ⟨h3, A, c, rfl, h4⟩⟩⟩
theorem NewV.slice {l : List Cl} {w w' : World} {v : Value} {n : Int} (h : NewV l w v n w') : ∃ A m c, v = .slice A m c := by
  rcases h.2 with ⟨_, rfl, _⟩ | ⟨_, out, _, ⟨_, rfl, _⟩ | ⟨_, _, A, c, rfl, _⟩⟩
  · exact ⟨_, _, _, rfl⟩
  · exact ⟨_, _, _, rfl⟩
  · exact ⟨_, _, _, rfl⟩
/-- From a later world on: what was there ahead is as it was. -/
theorem NewV.from {l : List Cl} {w w0 w' : World} {v : Value} {n : Int} (h : NewV l w v n w') (hb : Below w0.heap.size w0 w) : NewV l w0 v n w' := by
  refine ⟨hb.trans (h.1.mono hb.size), ?_⟩
  rcases h.2 with h1 | ⟨h1, out, h2, h3 | ⟨h3, rfl, A, c, rfl, h4⟩⟩
  · exact .inl h1
  · exact .inr ⟨h1, out, h2, .inl h3⟩
  · exact .inr ⟨h1, out, h2, .inr ⟨h3, rfl, A, c, rfl, own_base h4 (fun g hg => Nat.le_trans hb.size (h4.lt g hg).1)⟩⟩
/-- A store into a box that is not a claim's. -/
theorem NewV.set {l : List Cl} {w w' : World} {v : Value} {n : Int} (h : NewV l w v n w') {B : Nat} {t : TypeId} {cs : Array Value} {fr : Nat × Nat} (hB : w'.heap[B]? = some (.cells cs t fr)) (ht : (52 : TypeId) ≠ t) {w0 : World} (hw : Below w0.heap.size w0 w) (hB0 : w0.heap.size ≤ B) (u : Value) : NewV l w0 v n (w'.setCell ⟨B, 0, none⟩ u) := by
  refine ⟨(hw.trans (h.1.mono hw.size)).setCell hB0 _, ?_⟩
  rcases h.2 with h1 | ⟨h1, out, h2, h3 | ⟨h3, rfl, A, c, rfl, h4⟩⟩
  · exact .inl h1
  · exact .inr ⟨h1, out, h2, .inl h3⟩
  · exact .inr ⟨h1, out, h2, .inr ⟨h3, rfl, A, c, rfl, own_only (own_base h4 (fun g hg => Nat.le_trans hw.size (h4.lt g hg).1)) (Only.set1 w' B 0 u) (fun g hg e => by subst e; exact own_blk_ne h4 hB ht hg)⟩⟩

end Go.Proofs.Ytihjcfifakcpgaa
