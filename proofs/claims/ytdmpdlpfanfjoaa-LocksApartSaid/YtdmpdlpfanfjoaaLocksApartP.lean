/- Three Locks side by side; two kinds of footprints that never conflict. -/
import Derived.Test.YtdmpdlpfanfjoaaLockQ
import Derived.Test.YtdmpdlpfanfjoaaFootZ
namespace Go.Proofs.Ytdmpdlpfanfjoaa
open Go.RowKit

/-- Three Locks, apart. -/
def Tri (w0 : World) (b1 b2 b3 : Nat) (C : Nat → Prop) (B1 B2 B3 : Int) (N : Nat) (l1 l2 l3 : List Ent) (w : World) : Prop :=
  ∃ F1 F2 F3 n1 n2 n3 s1 s2 s3 a1 a2 a3, One w0 w F1 C b1 s1 a1 l1 n1 ∧ One w0 w F2 C b2 s2 a2 l2 n2 ∧ One w0 w F3 C b3 s3 a3 l3 n3 ∧ (∀ k, F1 k → ¬ F2 k) ∧ (∀ k, F2 k → ¬ F3 k) ∧ (∀ k, F3 k → ¬ F1 k) ∧
    (s1 = true → a1 < B1) ∧ (s2 = true → a2 < B2) ∧ (s3 = true → a3 < B3) ∧ n1 ≤ N ∧ n2 ≤ N ∧ n3 ≤ N
section
variable {w0 w w' : World} {b1 b2 b3 N : Nat} {C : Nat → Prop} {B1 B2 B3 : Int} {l1 l2 l3 : List Ent}
theorem Tri.rot (h : Tri w0 b1 b2 b3 C B1 B2 B3 N l1 l2 l3 w) : Tri w0 b2 b3 b1 C B2 B3 B1 N l2 l3 l1 w := by
  obtain ⟨F1, F2, F3, n1, n2, n3, s1, s2, s3, a1, a2, a3, h1, h2, h3, p1, p2, p3, q1, q2, q3, r1, r2, r3⟩ := h
  exact ⟨F2, F3, F1, n2, n3, n1, s2, s3, s1, a2, a3, a1, h2, h3, h1, p2, p3, p1, q2, q3, q1, r2, r3, r1⟩
theorem Tri.bel (h : Tri w0 b1 b2 b3 C B1 B2 B3 N l1 l2 l3 w) : Below w0.heap.size w0 w := by
  obtain ⟨F1, F2, F3, n1, n2, n3, s1, s2, s3, a1, a2, a3, h1, _⟩ := h
  exact h1.2.2
theorem Tri.line (h : Tri w0 b1 b2 b3 C B1 B2 B3 N l1 l2 l3 w) : Rise l1 ∧ ∀ e ∈ l1, I64 e.1 := by
  obtain ⟨F1, F2, F3, n1, n2, n3, s1, s2, s3, a1, a2, a3, h1, _⟩ := h
  exact ⟨h1.1.line.1, h1.1.line.2.2⟩
theorem Tri.below (h : Tri w0 b1 b2 b3 C B1 B2 B3 N l1 l2 l3 w) (hb : Below w.heap.size w w') : Tri w0 b1 b2 b3 C B1 B2 B3 N l1 l2 l3 w' := by
  obtain ⟨F1, F2, F3, n1, n2, n3, s1, s2, s3, a1, a2, a3, h1, h2, h3, r⟩ := h
  exact ⟨F1, F2, F3, n1, n2, n3, s1, s2, s3, a1, a2, a3, h1.below hb, h2.below hb, h3.below hb, r⟩
theorem Tri.mor (h : Tri w0 b1 b2 b3 C B1 B2 B3 N l1 l2 l3 w) (hb : Below w.heap.size w w') : Tri w0 b1 b2 b3 (Mor C w w') B1 B2 B3 N l1 l2 l3 w' := by
  obtain ⟨F1, F2, F3, n1, n2, n3, s1, s2, s3, a1, a2, a3, h1, h2, h3, r⟩ := h
  exact ⟨F1, F2, F3, n1, n2, n3, s1, s2, s3, a1, a2, a3, h1.mor hb, h2.mor hb, h3.mor hb, r⟩
theorem Tri.mono (h : Tri w0 b1 b2 b3 C B1 B2 B3 N l1 l2 l3 w) {N' : Nat} (hN : N ≤ N') {B1' B2' B3' : Int} (hB1 : B1 ≤ B1') (hB2 : B2 ≤ B2') (hB3 : B3 ≤ B3') : Tri w0 b1 b2 b3 C B1' B2' B3' N' l1 l2 l3 w := by
  obtain ⟨F1, F2, F3, n1, n2, n3, s1, s2, s3, a1, a2, a3, h1, h2, h3, p1, p2, p3, q1, q2, q3, r1, r2, r3⟩ := h
  exact ⟨F1, F2, F3, n1, n2, n3, s1, s2, s3, a1, a2, a3, h1, h2, h3, p1, p2, p3, fun h => by have := q1 h; omega, fun h => by have := q2 h; omega, fun h => by have := q3 h; omega, by omega, by omega, by omega⟩
/-- What the first one's calls leave. -/
def Left (C : Nat → Prop) (w w' : World) : Prop := ∃ F : Nat → Prop, Only F w w' ∧ ∀ k, C k → ¬ F k
theorem Left.ft {B c : Nat} {A : Option Addr} {f : List Cl} (h : Left C w w') (hf : FtC w C B A f c) : FtC w' C B A f c := by
  obtain ⟨F, h1, h2⟩ := h
  exact hf.only h1 h2
theorem Tri.enq (h : Tri w0 b1 b2 b3 C B1 B2 B3 N l1 l2 l3 w) {id : Int} {v : Value} {f : List Cl} (hid : B1 ≤ id) (hi : I64 id) (hl : l1.length ≤ 1000) (hN : N ≤ 1000000) (hf : ClRd w C v f) (hfl : f.length ≤ 64) :
    Calls Try.prog 36 #[.pointer (some ⟨b1, 0, none⟩), .int .i64 id, .agg #[v]] w fun e w' => e = .returned (.int .i64 0) ∧ Tri w0 b1 b2 b3 C (id + 1) B2 B3 (N + l1.length + 1) (l1 ++ [(id, f)]) l2 l3 w' ∧ Left C w w' := by
  obtain ⟨F1, F2, F3, n1, n2, n3, s1, s2, s3, a1, a2, a3, h1, h2, h3, p1, p2, p3, q1, q2, q3, r1, r2, r3⟩ := h
  refine (enq_ok w F1 C b1 n1 s1 a1 l1 id v f h1.1 (by omega) (by omega) hi hf (by omega)).mono ?_
  intro e w' hq
  obtain ⟨rfl, hoF, F', hx, hF'⟩ := hq.next h1 (fun hs => by have := q1 hs; omega)
  refine ⟨rfl, ⟨F', F2, F3, _, n2, n3, true, s2, s3, id, a2, a3, hx, h2.other h1 hoF p1, h3.other h1 hoF (fun k hk hh => p3 k hh hk), h2.apart2 p1 hF', p2, fun k hk hh => h3.apart2 (fun k hk hh => p3 k hh hk) hF' k hh hk, fun _ => by omega, q2, q3, by omega, by omega, by omega⟩, F1, hoF, h1.cF⟩
theorem Left.rd {v : Value} {xs : List Value} (h : Left C w w') (hr : Rd w C v xs) : Rd w' C v xs := by
  obtain ⟨F, h1, h2⟩ := h
  exact hr.only h1 h2
theorem Tri.relY (h : Tri w0 b1 b2 b3 C B1 B2 B3 N l1 l2 l3 w) {id : Int} (hi : I64 id) (hm : id ∈ ready l1) (hl : l1.length ≤ 1000) (hN : N ≤ 1000000) :
    Calls Try.prog 39 #[.pointer (some ⟨b1, 0, none⟩), .int .i64 id] w fun e w' => e = .returned (.int .i64 0) ∧ Tri w0 b1 b2 b3 C B1 B2 B3 (N + l1.length) (outL l1 id) l2 l3 w' ∧ Left C w w' := by
  obtain ⟨F1, F2, F3, n1, n2, n3, s1, s2, s3, a1, a2, a3, h1, h2, h3, p1, p2, p3, q1, q2, q3, r1, r2, r3⟩ := h
  refine (rel_ok w F1 C b1 n1 s1 a1 l1 id h1.1 (by omega) (by omega) hi).mono ?_
  intro e w' hq
  obtain ⟨rfl, hoF, hx⟩ := hq.yes h1 hm
  exact ⟨rfl, ⟨F1, F2, F3, _, n2, n3, s1, s2, s3, a1, a2, a3, hx, h2.other h1 hoF p1, h3.other h1 hoF (fun k hk hh => p3 k hh hk), p1, p2, p3, q1, q2, q3, by omega, by omega, by omega⟩, F1, hoF, h1.cF⟩
theorem Tri.relN (h : Tri w0 b1 b2 b3 C B1 B2 B3 N l1 l2 l3 w) {id : Int} (hi : I64 id) (hm : id ∉ nums l1) (hl : l1.length ≤ 1000) (hN : N ≤ 1000000) :
    Calls Try.prog 39 #[.pointer (some ⟨b1, 0, none⟩), .int .i64 id] w fun e w' => e = .returned (.int .i64 14) ∧ Tri w0 b1 b2 b3 C B1 B2 B3 N l1 l2 l3 w' ∧ Left C w w' := by
  obtain ⟨F1, F2, F3, n1, n2, n3, s1, s2, s3, a1, a2, a3, h1, h2, h3, p1, p2, p3, q1, q2, q3, r1, r2, r3⟩ := h
  refine (rel_ok w F1 C b1 n1 s1 a1 l1 id h1.1 (by omega) (by omega) hi).mono ?_
  intro e w' hq
  obtain ⟨rfl, hoF, hx⟩ := hq.no h1 hm
  exact ⟨rfl, ⟨F1, F2, F3, n1, n2, n3, s1, s2, s3, a1, a2, a3, hx, h2.other h1 hoF p1, h3.other h1 hoF (fun k hk hh => p3 k hh hk), p1, p2, p3, q1, q2, q3, by omega, by omega, by omega⟩, F1, hoF, h1.cF⟩
theorem Tri.ready (h : Tri w0 b1 b2 b3 C B1 B2 B3 N l1 l2 l3 w) (hl : l1.length ≤ 1000) : Calls Try.prog 37 #[.pointer (some ⟨b1, 0, none⟩)] w fun e w' => ∃ A c, e = .returned (.slice A (Go.Proofs.Ytdmpdlpfanfjoaa.ready l1).length c) ∧ Rd w' (New w w') (.slice A (Go.Proofs.Ytdmpdlpfanfjoaa.ready l1).length c) ((Go.Proofs.Ytdmpdlpfanfjoaa.ready l1).map (Value.int .i64)) ∧ Below w.heap.size w w' := by
  obtain ⟨F1, F2, F3, n1, n2, n3, s1, s2, s3, a1, a2, a3, h1, _⟩ := h
  refine (lkReady_ok w F1 C b1 n1 s1 a1 l1 h1.1 (by omega)).mono ?_
  rintro e w' ⟨v, rfl, A, c, rfl, h3, hb⟩
  exact ⟨A, c, rfl, Rd.of_own h3 (fun g hg => h3.lt g hg), hb⟩
theorem Tri.len (h : Tri w0 b1 b2 b3 C B1 B2 B3 N l1 l2 l3 w) : Calls Try.prog 38 #[.pointer (some ⟨b1, 0, none⟩)] w fun e w' => e = .returned (.int .i64 (l1.length : Int)) ∧ w = w' := by
  obtain ⟨F1, F2, F3, n1, n2, n3, s1, s2, s3, a1, a2, a3, h1, _⟩ := h
  exact lkLen_ok w F1 C b1 n1 s1 a1 l1 h1.1
end

/-! ### two kinds -/
/-- Footprints whose keys all begin so. -/
def Knd (x : UInt8) (f : List Cl) : Prop := ∀ c ∈ f, ∃ k, c.key = x :: k
theorem knd_apart {f g : List Cl} (hf : Knd 120 f) (hg : Knd 121 g) : ¬ ConflP f g := by
  rintro ⟨c, hc, d, hd, _, _, hk, _⟩
  obtain ⟨k1, h1⟩ := hf c hc
  obtain ⟨k2, h2⟩ := hg d hd
  rw [h1, h2] at hk
  injection hk with hk
  exact absurd hk (by decide)
/-- A claim of a row, its key begun otherwise. -/
def apCl (x : UInt8) (c : Cl) : Cl := ⟨c.wr, c.col, x :: c.key, c.lo, c.hi⟩
def apK (c : Cl) : Bool := decide (c.col < 0) && decide (c.key.length ≤ 15)
def apL (x : UInt8) (l : List Cl) : List Cl := (l.filter apK).map (apCl x)
theorem apL_snoc_yes {x : UInt8} {l : List Cl} {k : Nat} {c : Cl} (hc : l[k]? = some c) (hy : apK c = true) : apL x (l.take (k + 1)) = apL x (l.take k) ++ [apCl x c] := by
  unfold apL
  rw [List.take_add_one, hc]
  simp [hy]
theorem apL_snoc_no {x : UInt8} {l : List Cl} {k : Nat} {c : Cl} (hc : l[k]? = some c) (hy : apK c = false) : apL x (l.take (k + 1)) = apL x (l.take k) := by
  unfold apL
  rw [List.take_add_one, hc]
  simp [hy]
theorem apL_len (x : UInt8) (l : List Cl) : (apL x l).length ≤ l.length := by
  unfold apL
  rw [List.length_map]
  exact List.length_filter_le _ _
theorem apL_fits {x : UInt8} {l : List Cl} (h : ∀ c ∈ l, c.fits) : ∀ c ∈ apL x l, c.fits := by
  intro c hc
  obtain ⟨d, hd, rfl⟩ := List.mem_map.1 hc
  obtain ⟨h1, h2⟩ := List.mem_filter.1 hd
  have := h d h1
  simp [apK] at h2
  refine ⟨this.1, this.2.1, this.2.2.1, ?_⟩
  show (x :: d.key).length ≤ maxLen
  simp [maxLen]
  omega
theorem knd_form {x : UInt8} {l out : List Cl} (ho : ∀ c ∈ apL x l, Ok c) (hf : ∀ c ∈ apL x l, c.fits) (h : IsForm (apL x l) out) : Knd x out := by
  intro c hc
  have hg := form_good h (fun c hc => ⟨ho c hc, hf c hc⟩)
  have h1 : 1 ≤ lev out (c.col, c.key, c.lo) := lev_pos.2 ⟨c, hc, Cl.has_lo (hg c hc).1⟩
  rw [h.2] at h1
  obtain ⟨d, hd, hh⟩ := lev_pos.1 h1
  obtain ⟨e, _, rfl⟩ := List.mem_map.1 hd
  have hk : (x :: e.key) = c.key := hh.2.1
  exact ⟨e.key, hk.symm⟩
/-- A line, and its two kinds. -/
structure Mix (lb lo lt : List Ent) : Prop where
  perm : lb.Perm (lo ++ lt)
  kx : ∀ e ∈ lo, Knd 120 e.2
  ky : ∀ e ∈ lt, Knd 121 e.2
theorem Mix.nil : Mix [] [] [] := ⟨List.Perm.refl _, (fun e he => by cases he), (fun e he => by cases he)⟩
section
variable {lb lo lt : List Ent}
theorem Mix.snocX (h : Mix lb lo lt) {e : Ent} (he : Knd 120 e.2) : Mix (lb ++ [e]) (lo ++ [e]) lt := by
  refine ⟨?_, fun x hx => ?_, h.ky⟩
  · have h1 : (lb ++ [e]).Perm ((lo ++ lt) ++ [e]) := h.perm.append_right _
    refine h1.trans ?_
    rw [List.append_assoc, List.append_assoc]
    exact List.Perm.append_left _ List.perm_append_comm
  · rcases List.mem_append.1 hx with hx | hx
    · exact h.kx x hx
    · simp at hx; subst hx; exact he
theorem Mix.snocY (h : Mix lb lo lt) {e : Ent} (he : Knd 121 e.2) : Mix (lb ++ [e]) lo (lt ++ [e]) := by
  refine ⟨?_, h.kx, fun x hx => ?_⟩
  · rw [← List.append_assoc]
    exact h.perm.append_right _
  · rcases List.mem_append.1 hx with hx | hx
    · exact h.ky x hx
    · simp at hx; subst hx; exact he
theorem Mix.mem (h : Mix lb lo lt) {e : Ent} : e ∈ lb ↔ e ∈ lo ∨ e ∈ lt := by rw [h.perm.mem_iff, List.mem_append]
theorem Mix.len (h : Mix lb lo lt) : lb.length = lo.length + lt.length := by rw [h.perm.length_eq, List.length_append]
theorem Mix.nums (h : Mix lb lo lt) : (Go.Proofs.Ytdmpdlpfanfjoaa.nums lb).Perm (Go.Proofs.Ytdmpdlpfanfjoaa.nums lo ++ Go.Proofs.Ytdmpdlpfanfjoaa.nums lt) := by
  have := h.perm.map (fun e : Ent => e.1)
  rw [List.map_append] at this
  exact this
theorem Mix.apart (h : Mix lb lo lt) (hr : Rise lb) {i : Int} (h1 : i ∈ Go.Proofs.Ytdmpdlpfanfjoaa.nums lo) : i ∉ Go.Proofs.Ytdmpdlpfanfjoaa.nums lt := by
  have hn := (h.nums.nodup_iff).1 hr.nodup
  exact fun h2 => (List.nodup_append.1 hn).2.2 i h1 i h2 rfl
theorem Mix.wtX (h : Mix lb lo lt) (hb : Rise lb) (ho : Rise lo) {i : Int} (hi : i ∈ Go.Proofs.Ytdmpdlpfanfjoaa.nums lo) (j : Int) : wtB lb i j = wtB lo i j := by
  obtain ⟨f, hf⟩ := mem_nums.1 hi
  rw [Bool.eq_iff_iff, wtB_true, wtB_true]
  constructor
  · rintro ⟨f', g, h1, h2, h3, h4⟩
    have e1 := ftOf_of_mem hb (h.mem.2 (.inl hf))
    rw [e1] at h1
    injection h1 with h1
    subst h1
    rcases h.mem.1 (ftOf_mem h2) with hg | hg
    · exact ⟨f, g, ftOf_of_mem ho hf, ftOf_of_mem ho hg, h3, h4⟩
    · exact absurd (confl_turn h4) (knd_apart (h.kx _ hf) (h.ky _ hg))
  · rintro ⟨f', g, h1, h2, h3, h4⟩
    exact ⟨f', g, ftOf_of_mem hb (h.mem.2 (.inl (ftOf_mem h1))), ftOf_of_mem hb (h.mem.2 (.inl (ftOf_mem h2))), h3, h4⟩
theorem Mix.wtY (h : Mix lb lo lt) (hb : Rise lb) (ho : Rise lt) {i : Int} (hi : i ∈ Go.Proofs.Ytdmpdlpfanfjoaa.nums lt) (j : Int) : wtB lb i j = wtB lt i j := by
  obtain ⟨f, hf⟩ := mem_nums.1 hi
  rw [Bool.eq_iff_iff, wtB_true, wtB_true]
  constructor
  · rintro ⟨f', g, h1, h2, h3, h4⟩
    have e1 := ftOf_of_mem hb (h.mem.2 (.inr hf))
    rw [e1] at h1
    injection h1 with h1
    subst h1
    rcases h.mem.1 (ftOf_mem h2) with hg | hg
    · exact absurd h4 (knd_apart (h.kx _ hg) (h.ky _ hf))
    · exact ⟨f, g, ftOf_of_mem ho hf, ftOf_of_mem ho hg, h3, h4⟩
  · rintro ⟨f', g, h1, h2, h3, h4⟩
    exact ⟨f', g, ftOf_of_mem hb (h.mem.2 (.inr (ftOf_mem h1))), ftOf_of_mem hb (h.mem.2 (.inr (ftOf_mem h2))), h3, h4⟩
theorem Mix.rdX (h : Mix lb lo lt) (hb : Rise lb) (ho : Rise lo) {i : Int} (hi : i ∈ Go.Proofs.Ytdmpdlpfanfjoaa.nums lo) : rdyB lb i = rdyB lo i := by
  rw [Bool.eq_iff_iff, rdyB_iff, rdyB_iff]
  exact forall_congr' fun j => by rw [h.wtX hb ho hi]
theorem Mix.rdY (h : Mix lb lo lt) (hb : Rise lb) (ho : Rise lt) {i : Int} (hi : i ∈ Go.Proofs.Ytdmpdlpfanfjoaa.nums lt) : rdyB lb i = rdyB lt i := by
  rw [Bool.eq_iff_iff, rdyB_iff, rdyB_iff]
  exact forall_congr' fun j => by rw [h.wtY hb ho hi]
theorem Mix.ready_len (h : Mix lb lo lt) (hb : Rise lb) (ho : Rise lo) (ht : Rise lt) : (ready lb).length = (ready lo).length + (ready lt).length := by
  unfold ready
  have h1 := (h.nums.filter (rdyB lb)).length_eq
  rw [List.filter_append, List.length_append] at h1
  rw [h1]
  congr 2
  · exact List.filter_congr fun i hi => h.rdX hb ho hi
  · exact List.filter_congr fun i hi => h.rdY hb ht hi
theorem Mix.ready_mem (h : Mix lb lo lt) (hb : Rise lb) (ho : Rise lo) (ht : Rise lt) {i : Int} (hi : i ∈ ready lb) : (i ∈ ready lo ∧ i ∉ Go.Proofs.Ytdmpdlpfanfjoaa.nums lt) ∨ (i ∉ Go.Proofs.Ytdmpdlpfanfjoaa.nums lo ∧ i ∈ ready lt) := by
  obtain ⟨h1, h2⟩ := mem_ready.1 hi
  rcases List.mem_append.1 (h.nums.mem_iff.1 h1) with hm | hm
  · exact .inl ⟨mem_ready.2 ⟨hm, by rw [← h.rdX hb ho hm]; exact h2⟩, h.apart hb hm⟩
  · exact .inr ⟨fun hh => h.apart hb hh hm, mem_ready.2 ⟨hm, by rw [← h.rdY hb ht hm]; exact h2⟩⟩
theorem outL_same {l : List Ent} {id : Int} (h : id ∉ Go.Proofs.Ytdmpdlpfanfjoaa.nums l) : outL l id = l := by
  unfold outL
  rw [List.filter_eq_self]
  intro e he
  have : e.1 ≠ id := fun e1 => h (mem_nums.2 ⟨e.2, by rw [← e1]; exact he⟩)
  simpa using this
theorem Mix.out (h : Mix lb lo lt) (id : Int) : Mix (outL lb id) (outL lo id) (outL lt id) := by
  refine ⟨?_, fun e he => h.kx e (mem_out.1 he).1, fun e he => h.ky e (mem_out.1 he).1⟩
  have := h.perm.filter (fun e => !(e.1 == id))
  rw [List.filter_append] at this
  exact this
end

end Go.Proofs.Ytdmpdlpfanfjoaa
