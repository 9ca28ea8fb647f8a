/- The log in memory ('LogAt'), and what New, Append, Len, At, Prefix do. -/
import Derived.Test.YtiacbhnkcllpjaaGreatDoorLog
namespace Go.Proofs.YtiacbhnkcllpjaaGreatDoor
set_option maxRecDepth 100000
open Go.RowKit

/-- A log in memory: the struct at block b, its row, the pieces' bytes; all of it in blocks of F. -/
def LogAt (w : World) (F : Nat → Prop) (b : Nat) (ps : List (List UInt8)) : Prop :=
  ∃ (v : Value) (vs : List Value), w.heap[b]? = some (.cells #[v] 131 (0, 0)) ∧ F b ∧ w.ownsRow 0 125 1 v ps.length vs ∧ (∀ g, v.ownBlock = some g → F g) ∧
    ∀ (i : Nat) (p : List UInt8), ps[i]? = some p → ∃ x : Value, vs[i]? = some x ∧ w.ownsRow 0 5 1 x p.length (p.map B8) ∧ ∀ g, x.ownBlock = some g → F g

/-- A slice of slices of bytes that reads as ps, in blocks of F. -/
def RowsRd (w : World) (F : Nat → Prop) (v : Value) (ps : List (List UInt8)) : Prop :=
  ∃ vs : List Value, Rd w F v vs ∧ vs.length = ps.length ∧ ∀ (i : Nat) (p : List UInt8), ps[i]? = some p → ∃ A c, vs[i]? = some (Value.slice A p.length c) ∧ Rd w F (.slice A p.length c) (p.map B8)

section
variable {w w' : World} {F G S : Nat → Prop} {b : Nat} {ps : List (List UInt8)} {v : Value}
theorem LogAt.only (h : LogAt w F b ps) (ho : Only S w w') (hd : ∀ k, F k → ¬ S k) : LogAt w' F b ps := by
  obtain ⟨v, vs, h1, h2, h3, h4, h6⟩ := h
  refine ⟨v, vs, ho.heap h1 (hd b h2), h2, own_only h3 ho (fun g hg => hd g (h4 g hg)), h4, fun i p hp => ?_⟩
  obtain ⟨x, hx, hr, hf⟩ := h6 i p hp
  exact ⟨x, hx, own_only hr ho (fun k hk => hd k (hf k hk)), hf⟩
theorem LogAt.below (h : LogAt w F b ps) (hb : Below w.heap.size w w') : LogAt w' F b ps := h.only (Only.of_below hb fun _ => False) (fun _ _ => id)
theorem LogAt.drewN (h : LogAt w F b ps) (n : Nat) : LogAt (w.drewN n) F b ps := h.only ((Only.refl (fun _ => False) w).drewN n) (fun _ _ h => h)
theorem LogAt.drew (h : LogAt w F b ps) : LogAt w.drew F b ps := h.only ((Only.refl (fun _ => False) w).drew) (fun _ _ h => h)
theorem LogAt.mono (h : LogAt w F b ps) (hF : ∀ k, F k → G k) : LogAt w G b ps := by
  obtain ⟨v, vs, h1, h2, h3, h4, h6⟩ := h
  refine ⟨v, vs, h1, hF b h2, h3, fun g hg => hF g (h4 g hg), fun i p hp => ?_⟩
  obtain ⟨x, hx, hr, hf⟩ := h6 i p hp
  exact ⟨x, hx, hr, fun k hk => hF k (hf k hk)⟩
theorem RowsRd.only (h : RowsRd w F v ps) (ho : Only S w w') (hd : ∀ k, F k → ¬ S k) : RowsRd w' F v ps := by
  obtain ⟨vs, h1, h2, h3⟩ := h
  refine ⟨vs, h1.only ho hd, h2, fun i p hp => ?_⟩
  obtain ⟨A, c, ha, hr⟩ := h3 i p hp
  exact ⟨A, c, ha, hr.only ho hd⟩
theorem RowsRd.below (h : RowsRd w F v ps) (hb : Below w.heap.size w w') : RowsRd w' F v ps := h.only (Only.of_below hb fun _ => False) (fun _ _ => id)
theorem RowsRd.drewN (h : RowsRd w F v ps) (n : Nat) : RowsRd (w.drewN n) F v ps := h.only ((Only.refl (fun _ => False) w).drewN n) (fun _ _ h => h)
theorem RowsRd.drew (h : RowsRd w F v ps) : RowsRd w.drew F v ps := h.only ((Only.refl (fun _ => False) w).drew) (fun _ _ h => h)
theorem RowsRd.mono (h : RowsRd w F v ps) (hF : ∀ k, F k → G k) : RowsRd w G v ps := by
  obtain ⟨vs, h1, h2, h3⟩ := h
  refine ⟨vs, h1.mono hF, h2, fun i p hp => ?_⟩
  obtain ⟨A, c, ha, hr⟩ := h3 i p hp
  exact ⟨A, c, ha, hr.mono hF⟩
theorem RowsRd.agree (h : RowsRd w F v ps) (hag : ∀ k o, F k → w.heap[k]? = some o → w'.heap[k]? = some o) : RowsRd w' F v ps := by
  obtain ⟨vs, h1, h2, h3⟩ := h
  refine ⟨vs, h1.agree hag, h2, fun i p hp => ?_⟩
  obtain ⟨A, c, ha, hr⟩ := h3 i p hp
  exact ⟨A, c, ha, hr.agree hag⟩
theorem RowsRd.bound (h : RowsRd w F v ps) : RowsRd w (fun k => F k ∧ k < w.heap.size) v ps := by
  obtain ⟨vs, h1, h2, h3⟩ := h
  refine ⟨vs, h1.bound, h2, fun i p hp => ?_⟩
  obtain ⟨A, c, ha, hr⟩ := h3 i p hp
  exact ⟨A, c, ha, hr.bound⟩
theorem LogAt.bound (h : LogAt w F b ps) : LogAt w (fun k => F k ∧ k < w.heap.size) b ps := by
  obtain ⟨v, vs, h1, h2, h3, h4, h6⟩ := h
  refine ⟨v, vs, h1, ⟨h2, (Array.getElem?_eq_some_iff.1 h1).1⟩, h3, fun g hg => ⟨h4 g hg, (h3.lt g hg).2⟩, fun i p hp => ?_⟩
  obtain ⟨x, hx, hr, hf⟩ := h6 i p hp
  exact ⟨x, hx, hr, fun k hk => ⟨hf k hk, (hr.lt k hk).2⟩⟩
theorem RowsRd.nil (w : World) (F : Nat → Prop) : RowsRd w F (.slice none 0 0) [] := ⟨[], Rd.nil _ _, rfl, fun i p hp => by simp at hp⟩
theorem LogAt.lt (h : LogAt w F b ps) : b < w.heap.size := by
  obtain ⟨v, vs, h1, _⟩ := h
  exact (Array.getElem?_eq_some_iff.1 h1).1
end

/-- Behind Append of a piece that goes in. -/
def AppendedP (F : Nat → Prop) (b : Nat) (ps : List (List UInt8)) (xs : List UInt8) (w : World) (e : Ending) (w' : World) : Prop :=
  e = .returned (.tuple #[.int .i64 ps.length, .int .i64 0]) ∧ Only F w w' ∧ ∃ F', LogAt w' F' b (ps ++ [xs]) ∧ ∀ k, F' k → F k ∨ w.heap.size ≤ k

theorem append_ok (w : World) (F : Nat → Prop) (b : Nat) (ps : List (List UInt8)) (h : LogAt w F b ps) (hn : ps.length < 1024) (G : Nat → Prop) (A2 : Option Addr) (n2 c2 : Nat) (xs : List UInt8) (hr : Rd w G (.slice A2 n2 c2) (xs.map B8)) (hx : xs.length ≤ 8192) :
    Calls Tryz.prog 61 #[.pointer (some ⟨b, 0, none⟩), .slice A2 n2 c2] w (AppendedP F b ps xs w) := by
  obtain ⟨v, vs, h1, h2, h3, h4, h6⟩ := h
  obtain ⟨A, c, rfl⟩ := ownsRow_slice h3
  have hn2 : n2 = xs.length := by
    obtain ⟨A', n', c', hv, hl, _⟩ := hr
    injection hv with _ e _
    simp at hl; omega
  refine (append_raw b A ps.length c vs w h1 h3 hn G A2 n2 c2 (xs.map B8) hr (B8_one xs) (by omega)).mono ?_
  rintro e w' ⟨g, cap, Ax, cx, he, ho, hb', hown', hx', hat⟩
  have hlv : vs.length = ps.length := by simpa using h3.1
  refine ⟨he, ho.mono (fun i _ hi => ?_), fun k => F k ∨ w.heap.size ≤ k, ⟨_, _, hb', .inl h2, by simpa using hown', ?_, ?_⟩, fun k hk => hk⟩
  · rcases hi with rfl | hi
    · exact h2
    · exact h4 i hi
  · intro k hk
    rcases hat with h | h
    · exact .inl (h4 k (h.trans hk))
    · injection hk with hk; subst hk; exact .inr h
  · intro i p hp
    rw [List.getElem?_append] at hp ⊢
    split at hp
    · rename_i hi
      obtain ⟨x, hx, hr2, hf⟩ := h6 i p hp
      refine ⟨x, by rw [if_pos (by omega)]; exact hx, own_only hr2 ho ?_, fun k hk => .inl (hf k hk)⟩
      intro k hk hor
      rcases hor with rfl | hor
      · exact own_blk_ne hr2 h1 (by decide) hk
      · exact own_own_ne hr2 h3 (by decide) hk hor
    · rename_i hi
      have hi0 : i - ps.length = 0 := by
        have := (List.getElem?_eq_some_iff.1 hp).1
        simp at this; omega
      rw [hi0] at hp
      simp at hp
      subst hp
      refine ⟨.slice Ax (xs.map B8).length cx, by rw [if_neg (by omega), hlv, hi0]; simp, ?_, fun k hk => .inr (hx'.lt k hk).1⟩
      have := own_base hx' (base' := 0) (fun _ _ => Nat.zero_le _)
      simpa using this

theorem append_long (w : World) (b : Nat) (A2 : Option Addr) (n2 c2 : Nat) (hx : 8192 < n2) (hx2 : n2 ≤ 9223372036854775807) :
    Calls Tryz.prog 61 #[.pointer (some ⟨b, 0, none⟩), .slice A2 n2 c2] w fun e w' => e = .returned (.tuple #[.int .i64 0, .int .i64 23]) ∧ w = w' := by
  go_enter Tryz.func61, Tryz.ntmps61
  go_wp2_with fail
  go_ret2
  exact ⟨rfl, rfl⟩

theorem append_full (w : World) (F : Nat → Prop) (b : Nat) (ps : List (List UInt8)) (h : LogAt w F b ps) (hn : ps.length = 1024) (A2 : Option Addr) (n2 c2 : Nat) (hx : n2 ≤ 8192) :
    Calls Tryz.prog 61 #[.pointer (some ⟨b, 0, none⟩), .slice A2 n2 c2] w fun e w' => e = .returned (.tuple #[.int .i64 0, .int .i64 16]) ∧ w = w' := by
  obtain ⟨v, vs, h1, _, h3, _⟩ := h
  rw [hn] at h3
  obtain ⟨A, c, rfl⟩ := ownsRow_slice h3
  have hc := blk_cell h1
  clear hn h1 h3
  go_enter Tryz.func61, Tryz.ntmps61
  go_wp2_with fail
  go_ret2
  exact ⟨rfl, rfl⟩

theorem append_nil (w : World) (v : Value) :
    Calls Tryz.prog 61 #[.pointer none, v] w fun e w' => e = .returned (.tuple #[.int .i64 0, .int .i64 2]) ∧ w = w' := by
  go_enter Tryz.func61, Tryz.ntmps61
  go_wp2_with fail
  go_ret2
  exact ⟨rfl, rfl⟩

theorem loglen_ok (w : World) (F : Nat → Prop) (b : Nat) (ps : List (List UInt8)) (h : LogAt w F b ps) :
    Calls Tryz.prog 35 #[.pointer (some ⟨b, 0, none⟩)] w fun e w' => e = .returned (.int .i64 ps.length) ∧ w = w' := by
  obtain ⟨v, vs, h1, _, h3, _⟩ := h
  obtain ⟨A, c, rfl⟩ := ownsRow_slice h3
  have hc := blk_cell h1
  clear h1 h3
  go_enter Tryz.func35, Tryz.ntmps35
  go_wp2_with fail
  go_ret
  exact ⟨rfl, rfl⟩

/-- What a log of pieces is, or what is wrong. -/
def LogNewP (ps : List (List UInt8)) (w : World) (e : Ending) (w' : World) : Prop :=
  Below w.heap.size w w' ∧ if ∀ p ∈ ps, p.length ≤ 8192 then ∃ b, e = .returned (.tuple #[.pointer (some ⟨b, 0, none⟩), .int .i64 0]) ∧ LogAt w' (fun k => w.heap.size ≤ k) b ps
    else e = .returned (.tuple #[.pointer none, .int .i64 23])

theorem RowsRd.at_ {w : World} {F : Nat → Prop} {v : Value} {ps : List (List UInt8)} (h : RowsRd w F v ps) : ∃ A c, v = .slice A ps.length c ∧ ps.length ≤ c ∧ c ≤ maxLen ∧
    ∀ i p, ps[i]? = some p → ∃ b o A' c', A = some ⟨b, o, none⟩ ∧ w.cell? ⟨b, o + i, none⟩ = some (.slice A' p.length c') ∧ Rd w F (.slice A' p.length c') (p.map B8) := by
  obtain ⟨vs, ⟨A, n, c, rfl, hl, hc, hm, hx⟩, hlen, hp⟩ := h
  refine ⟨A, c, by rw [← hlen, hl], by omega, hm, fun i p hi => ?_⟩
  have hlt := (List.getElem?_eq_some_iff.1 hi).1
  obtain ⟨b, o, e, hF, hu⟩ := hx (by omega)
  obtain ⟨A', c', hv, hr⟩ := hp i p hi
  exact ⟨b, o, A', c', e, hu i _ hv, hr⟩

def NewRel (w : World) (ps : List (List UInt8)) (x : Value × Value) (wr : World) : Prop :=
  ∃ k : Nat, k ≤ ps.length ∧ x = (.int .i64 0, .int .i64 k) ∧ (∀ p ∈ ps.take k, p.length ≤ 8192) ∧ LogAt wr (fun j => w.heap.size ≤ j) w.heap.size (ps.take k) ∧ Below w.heap.size w wr

theorem new_start (w : World) : LogAt (w.alloc (.cells #[.slice none 0 0] 131)) (fun j => w.heap.size ≤ j) w.heap.size [] :=
  ⟨.slice none 0 0, [], heap_alloc_new w _, Nat.le_refl _, World.ownsRow_nil _ _ _ _, fun g hg => by simp [Value.ownBlock] at hg, fun i p hp => by simp at hp⟩

set_option maxHeartbeats 1000000 in
theorem log_new (w : World) (F : Nat → Prop) (v : Value) (ps : List (List UInt8)) (hr : RowsRd w F v ps) (hF : ∀ k, F k → k < w.heap.size) (hn : ps.length ≤ 1024) :
    Calls Tryz.prog 11 #[v] w (LogNewP ps w) := by
  obtain ⟨A, c, rfl, hc, hm, hat⟩ := hr.at_
  have HAT := Lib.hid hat
  have HR := Lib.hid hr
  clear hat hr
  go_enter Tryz.func11, Tryz.ntmps11
  go_wp2_with fail
  go_step3
  go_wp2_with fail
  go_step3
  go_wp2_with fail
  go_loopw [5, 12] (fun e i wr => NewRel w ps (e, i) wr) (fun _ i _ => ps.length - (intOf i).toNat)
  case atStart => exact ⟨0, Nat.zero_le _, rfl, by simp, new_start w, (Below.refl _ _).alloc (Nat.le_refl _) _⟩
  case round =>
    obtain ⟨k, hk, h1, hsm, hlog, hbl⟩ := hrel
    simp only [Prod.mk.injEq] at h1
    obtain ⟨rfl, rfl⟩ := h1
    by_cases hlt : k < ps.length
    · obtain ⟨p, hp⟩ : ∃ p, ps[k]? = some p := ⟨_, List.getElem?_eq_getElem hlt⟩
      obtain ⟨b, o, A', c', rfl, hcell, hrd⟩ := HAT.out k p hp
      have hb : b < w.heap.size := World.block_lt_of_cell? w _ hcell
      have hcell' : wr.cell? ⟨b, o + k, none⟩ = some (.slice A' p.length c') := (hbl.cell (p := ⟨b, o + k, none⟩) hb).trans hcell
      have hrd' : Rd wr F (.slice A' p.length c') (p.map B8) := hrd.only (hbl.onlyGe) (fun k hk => by have := hF k hk; omega)
      have hpl : p.length ≤ maxLen := by have := hrd.length_le; simpa using this
      unfold maxLen at hpl hm
      have hlk : (ps.take k).length = k := by simp; omega
      have htk : ps.take (k + 1) = ps.take k ++ [p] := by rw [List.take_add_one, hp]; rfl
      have HTK := Lib.hid htk
      have HP := Lib.hid hp
      have HSM := Lib.hid hsm
      have HLK := Lib.hid hlk
      clear htk hp hsm hlk hcell hrd HR HAT
      by_cases hle : p.length ≤ 8192
      · go_wp2_with fail
        refine (append_ok wr _ _ _ hlog (by rw [HLK.out]; omega) F A' p.length c' p hrd' hle).mono ?_
        rintro e w1 ⟨rfl, ho, F', hlog1, hF'⟩
        go_wp2_with fail
        go_roundw
        case rel =>
          refine ⟨k + 1, by omega, by go_num, ?_, ?_, ?_⟩
          · rw [HTK.out]
            intro q hq
            rcases List.mem_append.1 hq with h | h
            · exact HSM.out q h
            · simp at h; subst h; exact hle
          · rw [HTK.out]
            refine hlog1.mono (fun j hj => ?_)
            have := hbl.size
            rcases hF' j hj with h | h
            · exact h
            · omega
          · exact hbl.trans (ho.belowN hbl.size (fun j hj h => by omega))
        case measure => simp [intOf]; omega
      · go_wp2_with fail
        refine (append_long wr _ A' p.length c' (by omega) (by omega)).mono ?_
        rintro e w1 ⟨rfl, rfl⟩
        go_wp2_with fail
        rw [Exit.noGoto_ret]
        go_ret2
        refine ⟨hbl, ?_⟩
        rw [if_neg (fun h => hle (h p (List.mem_of_getElem? HP.out)))]
        rfl
    · obtain rfl : k = ps.length := by omega
      simp only [List.take_length] at hlog hsm
      have HSM := Lib.hid hsm
      clear hsm HR HAT
      go_wp2_with fail
      rw [Exit.noGoto_ret]
      go_ret2
      refine ⟨hbl, ?_⟩
      rw [if_pos HSM.out]
      exact ⟨_, rfl, hlog⟩
end Go.Proofs.YtiacbhnkcllpjaaGreatDoor
