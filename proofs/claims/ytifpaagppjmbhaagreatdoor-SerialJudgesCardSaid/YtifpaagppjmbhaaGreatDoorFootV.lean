/- Join, the chapter's example, Few. -/
import Derived.Test.YtifpaagppjmbhaaGreatDoorFootR
import Derived.Test.YtifpaagppjmbhaaGreatDoorFootU
namespace Go.Proofs.YtifpaagppjmbhaaGreatDoor
set_option maxRecDepth 100000
open Go.RowKit

/-- A block that holds claims, one behind the other, reads as them. -/
theorem cl_of_block {w : World} {b : Nat} {l : List Cl} {cs : Array Value} {t : TypeId} {F : Nat → Prop} (h : w.heap[b]? = some (.cells cs t (0, 0))) (he : cs.toList = (l.map Cl.cells).flatten) (hF : F b) (hl : l.length ≤ maxLen) : ClRd w F (.slice (some ⟨b, 0, none⟩) l.length l.length) l := by
  refine ⟨_, _, _, rfl, by simp, Nat.le_refl _, hl, fun _ => ⟨b, 0, rfl, hF, fun i x hi j u hj => ?_⟩⟩
  have h1 := flat_at (cl_len l) i x hi j u hj
  rw [← he] at h1
  rw [Nat.zero_add]
  simp [World.cell?, h]
  simpa using h1

theorem fresh_rd {l : List Cl} {w' : World} {base : Nat} {A : Option Addr} {c : Nat} (h : w'.ownsRow base 119 5 (.slice A l.length c) l.length (l.map Cl.cells).flatten) : ClRd w' (fun _ => True) (.slice A l.length c) l :=
  RdK.of_own h (cl_len _) (by decide) (fun _ _ => trivial)

theorem step_append_rdk {P : Program} {w : World} {ops : Array Oper} {o : Oper} {a : Act} {K : Act → World → Prop} {Q : Exit → Act → World → Prop} {E : Prop} (hgd : o.guard = none) (s x : Operand) (t : TypeId)
    (ho : o.op = .call { callee := .builtin .append, args := #[s, x], argTypes := #[t, t] })
    (base : Nat) (e : TypeId) (i : TypeInfo) (z : Value) (k bytes : Nat) (ht : P.underlying t = some (.slice e)) (hi : P.info? e = some i) (hz : i.zero = some z)
    (hsize : i.size = k) (hby : i.bytes = bytes) (hzs : z.cells.size = k) (hk0 : 0 < k)
    (v : Value) (n : Nat) (xs : List Value) (hs : a.eval s = v) (hown : w.ownsRow base e k v n xs) (F : Nat → Prop) (vx : Value) (news : List (List Value)) (hx : a.eval x = vx) (hr : RdK k w F vx news) (hk : ∀ y ∈ news, y.length = k) (h1 : ∀ u ∈ news.flatten, u.oneCell' = true)
    (hbytes : (n + news.length) * bytes ≤ 140737488355328) (h63 : n + news.length ≤ maxLen) (hbase : base ≤ w.heap.size)
    (h : ∀ v' w', w'.ownsRow base e k v' (n + news.length) (xs ++ news.flatten) → w.grownBy w' v.ownBlock → (v'.ownBlock = v.ownBlock ∨ v'.ownBlock = some w.heap.size) → K (a.put o.dst v') w') :
    if Region.wanted o (yielded ops a.tmps) = true then Oper.wp P o a w K Q else E := by
  have hw : Region.wanted o (yielded ops a.tmps) = true := by simp [Region.wanted, hgd]
  rw [if_pos hw]
  obtain ⟨v', w', hrun, h2, h3, h4⟩ := run_append_rdk (P := P) w base t o.type e i z k bytes ht hi hz hsize hby hzs hk0 v n xs hown F vx news hr hk h1 hbytes h63 hbase
  unfold Oper.wp execOp
  simp only [ho, resolve, invoke, builtin, Sem.run_bind, Sem.run_pure, Result.andThen_ok, List.map_toArray, List.map_cons, List.map_nil, hs, hx, hrun]
  exact h v' w' h2 h3 h4

/-- What New hands back, with names for what lies in the result. -/
def NewV (l : List Cl) (w : World) (v : Value) (n : Int) (w' : World) : Prop :=
  Below w.heap.size w w' ∧ ((errOf l ≠ 0 ∧ v = .slice none 0 0 ∧ n = errOf l) ∨ (errOf l = 0 ∧ ∃ out, IsForm l out ∧ ((64 < out.length ∧ v = .slice none 0 0 ∧ n = 23) ∨
    (out.length ≤ 64 ∧ n = 0 ∧ ∃ A c, v = .slice A out.length c ∧ w'.ownsRow w.heap.size 119 5 (.slice A out.length c) out.length (out.map Cl.cells).flatten))))
theorem NewP.named {l : List Cl} {w w' : World} {e : Ending} (h : NewP l w e w') : ∃ v n, e = .returned (.tuple #[.agg #[v], .int .i64 n]) ∧ NewV l w v n w' := by
  obtain ⟨hb, ⟨h1, rfl⟩ | ⟨h1, out, h2, ⟨h3, rfl⟩ | ⟨h3, A, c, rfl, h4⟩⟩⟩ := h
  · exact ⟨_, _, rfl, hb, .inl ⟨h1, rfl, rfl⟩⟩
  · exact ⟨_, _, rfl, hb, .inr ⟨h1, out, h2, .inl ⟨h3, rfl, rfl⟩⟩⟩
  · exact ⟨_, _, rfl, hb, .inr ⟨h1, out, h2, .inr ⟨h3, rfl, A, c, rfl, h4⟩⟩⟩
theorem NewV.unname {l : List Cl} {w w' : World} {v : Value} {n : Int} (h : NewV l w v n w') : NewP l w (.returned (.tuple #[.agg #[v], .int .i64 n])) w' := by
  obtain ⟨hb, ⟨h1, rfl, rfl⟩ | ⟨h1, out, h2, ⟨h3, rfl, rfl⟩ | ⟨h3, rfl, A, c, rfl, h4⟩⟩⟩ := h
  · exact ⟨hb, .inl ⟨h1, rfl⟩⟩
  · exact ⟨hb, .inr ⟨h1, out, h2, .inl ⟨h3, rfl⟩⟩⟩
  · exact ⟨hb, .inr ⟨h1, out, h2, .inr ⟨h3, A, c, rfl, h4⟩⟩⟩
theorem NewV.slice {l : List Cl} {w w' : World} {v : Value} {n : Int} (h : NewV l w v n w') : ∃ A m c, v = .slice A m c := by
  rcases h.2 with ⟨_, rfl, _⟩ | ⟨_, out, _, ⟨_, rfl, _⟩ | ⟨_, _, A, c, rfl, _⟩⟩
  · exact ⟨_, _, _, rfl⟩
  · exact ⟨_, _, _, rfl⟩
  · exact ⟨_, _, _, rfl⟩
/-- From a later world on: what was there ahead is as it was. -/
theorem NewV.from {l : List Cl} {w w0 w' : World} {v : Value} {n : Int} (h : NewV l w v n w') (hb : Below w0.heap.size w0 w) : NewV l w0 v n w' := by
  refine ⟨hb.trans (h.1.mono hb.size), ?_⟩
  rcases h.2 with h1 | ⟨h1, out, h2, h3 | ⟨h3, rfl, A, c, rfl, h4⟩⟩
  · exact .inl h1
  · exact .inr ⟨h1, out, h2, .inl h3⟩
  · exact .inr ⟨h1, out, h2, .inr ⟨h3, rfl, A, c, rfl, own_base h4 (fun g hg => Nat.le_trans hb.size (h4.lt g hg).1)⟩⟩
/-- A store into a box that is not a claim's. -/
theorem NewV.set {l : List Cl} {w w' : World} {v : Value} {n : Int} (h : NewV l w v n w') {B : Nat} {t : TypeId} {cs : Array Value} {fr : Nat × Nat} (hB : w'.heap[B]? = some (.cells cs t fr)) (ht : (119 : TypeId) ≠ t) {w0 : World} (hw : Below w0.heap.size w0 w) (hB0 : w0.heap.size ≤ B) (u : Value) : NewV l w0 v n (w'.setCell ⟨B, 0, none⟩ u) := by
  refine ⟨(hw.trans (h.1.mono hw.size)).setCell hB0 _, ?_⟩
  rcases h.2 with h1 | ⟨h1, out, h2, h3 | ⟨h3, rfl, A, c, rfl, h4⟩⟩
  · exact .inl h1
  · exact .inr ⟨h1, out, h2, .inl h3⟩
  · exact .inr ⟨h1, out, h2, .inr ⟨h3, rfl, A, c, rfl, own_only (own_base h4 (fun g hg => Nat.le_trans hw.size (h4.lt g hg).1)) (Only.set1 w' B 0 u) (fun g hg e => by subst e; exact own_blk_ne h4 hB ht hg)⟩⟩

set_option maxRecDepth 100000 in
set_option maxHeartbeats 1000000 in
theorem join_ok (w : World) (F G : Nat → Prop) (v u : Value) (a b : List Cl) (ha : ClRd w F v a) (hb : ClRd w G u b) (hla : a.length ≤ 500) (hlb : b.length ≤ 500) (hfa : ∀ c ∈ a, c.fits) (hfb : ∀ c ∈ b, c.fits) :
    Calls Tryz.prog 259 #[.agg #[v], .agg #[u]] w (NewP (a ++ b) w) := by
  obtain ⟨i2, hi2, hy0, hy1, hy2⟩ := info_parts Tryz.info28
  obtain ⟨A, c, rfl, hnc, hcm⟩ := ha.slice
  obtain ⟨B, d, rfl, hnd, hdm⟩ := hb.slice
  have H := Lib.hid (And.intro ha hb)
  have HHI2 := Lib.hid hi2
  clear ha hb hi2
  go_enter Tryz.func259, Tryz.ntmps259
  go_wp2_with fail
  have ht := (Two.start w (.slice A a.length c) (.slice B b.length d)).alloc (.cells #[.slice none 0 0] 109)
  have hs0 : (((w.alloc (.cells #[.slice A a.length c] 109)).alloc (.cells #[.slice B b.length d] 109)).alloc (.cells #[.slice none 0 0] 109)).heap.size = w.heap.size + 1 + 1 + 1 := by simp
  have hh2 := new3 w (.cells #[.slice A a.length c] 109) (.cells #[.slice B b.length d] 109) (.cells #[.slice none 0 0] 109)
  generalize ((w.alloc (.cells #[.slice A a.length c] 109)).alloc (.cells #[.slice B b.length d] 109)).alloc (.cells #[.slice none 0 0] 109) = W0 at ht hs0 hh2 ⊢
  have hc0 := blk_cell ht.2.1
  have hc1 := blk_cell ht.2.2
  have hl0 : w.heap.size < W0.heap.size := by omega
  have hl1 : w.heap.size + 1 < W0.heap.size := by omega
  have hl2 : w.heap.size + 1 + 1 < W0.heap.size := by omega
  have HW := Lib.hid (And.intro ht.1 (And.intro hs0 hh2))
  have hn1 : w.heap.size + 1 + 1 ≠ w.heap.size := by omega
  have hn2 : w.heap.size + 1 + 1 ≠ w.heap.size + 1 := by omega
  clear ht hs0 hh2
  go_region_held3 (fun w' => w'.cell? ⟨w.heap.size, 0, none⟩ = some (.slice A a.length c) ∧ w'.cell? ⟨w.heap.size + 1, 0, none⟩ = some (.slice B b.length d)) (first | exact ⟨by assumption, by assumption⟩ | go_keep | exact ⟨(World.cell?_setCell_far _ _ _ _ hn1).trans (by assumption), (World.cell?_setCell_far _ _ _ _ hn2).trans (by assumption)⟩)
    (first | (go_at_call 49; refine (claims_ok _ F _ a (RdK.below H.out.1 HW.out.1.drew) (by omega)).mono ?_; rintro e w1 ⟨A1, c1, rfl, hO1, hb1⟩; have hb1' : Below W0.heap.size W0 w1 := undrew hb1; have k0 := (hb1'.cell (p := ⟨w.heap.size, 0, none⟩) hl0).trans hc0; have k1 := (hb1'.cell (p := ⟨w.heap.size + 1, 0, none⟩) hl1).trans hc1; have H1 := Lib.hid (And.intro hO1 hb1'); clear hO1 hb1 hb1') | (go_at_call 47; refine (new_ok _ (fun _ => True) v2 (a ++ b) (RdK.of_own H2.out.1 (cl_len _) (by decide) (fun _ _ => trivial)) (by simp; omega) (fun c hc => (List.mem_append.1 hc).elim (hfa c) (hfb c))).mono ?_; intro e w3 hnp; obtain ⟨v3, n3, rfl, hnv⟩ := hnp.named; obtain ⟨A3, m3, c3, rfl⟩ := hnv.slice; have hb3 := H2.out.2.trans (hnv.1.mono H2.out.2.size); have i0 := (hb3.cell (p := ⟨w.heap.size, 0, none⟩) hl0).trans hc0; have i1 := (hb3.cell (p := ⟨w.heap.size + 1, 0, none⟩) hl1).trans hc1; have hh3 := (hb3.block _ hl2).trans HW.out.2.2; have i3 := blk_cell hh3; have i4 := blk_frozen hh3; have H3 := Lib.hid (And.intro hnv (And.intro hb3 hh3)); clear hnv hb3 hh3 hnp) | (refine step_append_rdk (by rfl) _ _ 65 (by rfl) W0.heap.size 119 i2 _ 5 48 Tryz.underlying65 HHI2.out hy0 hy1 hy2 (by rfl) (by decide) (.slice A1 a.length c1) a.length _ (by rfl) H1.out.1 G (.slice B b.length d) (b.map Cl.cells) (by rfl) (RdK.below H.out.2 (HW.out.1.trans (H1.out.2.mono (by omega)))) (cl_len _) (cl_one _) (by rw [List.length_map]; omega) (by rw [List.length_map]; unfold maxLen; omega) H1.out.2.size ?_; intro v2 w2 hO2 hg2 hat2; have hb2 : Below W0.heap.size W0 w2 := H1.out.2.grown hg2 H1.out.2.size (fun j hj => (H1.out.1.lt j hj).1); have j0 := (hb2.cell (p := ⟨w.heap.size, 0, none⟩) hl0).trans hc0; have j1 := (hb2.cell (p := ⟨w.heap.size + 1, 0, none⟩) hl1).trans hc1; have hO2' : w2.ownsRow W0.heap.size 119 5 v2 (a ++ b).length ((a ++ b).map Cl.cells).flatten := (by simpa using hO2); have H2 := Lib.hid (And.intro hO2' hb2); clear hO2 hg2 hat2 hO2' hb2))
  obtain ⟨hnv, hb3, hh3⟩ := H3.out
  have hh := heap_setCell_same w3 (w.heap.size + 1 + 1) 0 _ _ (.slice A3 m3 c3) hh3
  clear i0 i1 i3 i4 j0 j1 k0 k1
  go_wp2_with fail
  refine bodyPost_ret (results_cell_row2 rfl _ _ _ _ _ _ _ rfl hh Tryz.underlying109 rfl (by kernel_rfl)) rfl ?_
  exact (hnv.set (w0 := w) hh3 (by decide) (HW.out.1.trans (H2.out.2.mono (by have := HW.out.2.1; omega))) (by omega) _).unname

end Go.Proofs.YtifpaagppjmbhaaGreatDoor
