/- From a reading of an argument to plain facts: ints, bools, strings, slices of bytes, of ints, of rows of bytes, of structs. -/
import Derived.Test.YtjiafaiklmbbeaaDoorMem
import Derived.ProofKit
import Derived.Deep.Slices
import Derived.Deep.Fields
import Derived.ChangeOld
namespace Go.Proofs.YtjiafaiklmbbeaaDoor
open Go.RowKit Go.ChangeShapes Go.WideShapes Go.Deep

theorem wf_i64 {n : Int} (h : (Lit.int .i64 n).wf = true) : -9223372036854775808 ≤ n ∧ n ≤ 9223372036854775807 := by
  simp only [Lit.wf, Bool.and_eq_true, decide_eq_true_eq] at h
  have h1 : IntKind.min .i64 = -9223372036854775808 := by decide
  have h2 : IntKind.max .i64 = 9223372036854775807 := by decide
  rw [h1, h2] at h
  exact h
theorem wf_u8 {n : Int} (h : (Lit.int .u8 n).wf = true) : 0 ≤ n ∧ n ≤ 255 := by
  simp only [Lit.wf, Bool.and_eq_true, decide_eq_true_eq] at h
  have h1 : IntKind.min .u8 = 0 := by decide
  have h2 : IntKind.max .u8 = 255 := by decide
  rw [h1, h2] at h
  exact h

/-- A slice of ints that reads as zs. -/
def RdI (w : World) (v : Value) (zs : List Int) : Prop := Rd w 1 v zs.length (zs.map (Value.int .i64))
def I64 (zs : List Int) : Prop := ∀ z ∈ zs, -9223372036854775808 ≤ z ∧ z ≤ 9223372036854775807
/-- A slice of bools that reads as l. -/
def RdT (w : World) (v : Value) (l : List Bool) : Prop := Rd w 1 v l.length (l.map Value.bool)
/-- A slice of rows of bytes: each with its value and its bytes. -/
def RdR (w : World) (v : Value) (ps : List (Value × List UInt8)) : Prop := Rd w 1 v ps.length (ps.map (·.1)) ∧ ∀ p ∈ ps, RdB w p.1 p.2

theorem bytes_of (vs : List Value) (h : ∀ u ∈ vs, ∃ n, u = .int .u8 n ∧ (Lit.int .u8 n).wf = true) : ∃ l : List UInt8, vs = bs l := by
  induction vs with
  | nil => exact ⟨[], rfl⟩
  | cons u vs ih =>
    obtain ⟨l, rfl⟩ := ih fun x hx => h x (List.mem_cons_of_mem _ hx)
    obtain ⟨n, rfl, hw⟩ := h u (List.mem_cons_self ..)
    have := wf_u8 hw
    refine ⟨UInt8.ofNat n.toNat :: l, ?_⟩
    simp only [bs, List.map_cons, bv]
    congr 2
    rw [UInt8.toNat_ofNat']
    omega
theorem ints_of (vs : List Value) (h : ∀ u ∈ vs, ∃ n, u = .int .i64 n ∧ (Lit.int .i64 n).wf = true) : ∃ zs : List Int, vs = zs.map (Value.int .i64) ∧ I64 zs := by
  induction vs with
  | nil => exact ⟨[], rfl, by simp [I64]⟩
  | cons u vs ih =>
    obtain ⟨zs, rfl, hz⟩ := ih fun x hx => h x (List.mem_cons_of_mem _ hx)
    obtain ⟨n, rfl, hw⟩ := h u (List.mem_cons_self ..)
    refine ⟨n :: zs, rfl, fun z hm => ?_⟩
    rcases List.mem_cons.1 hm with rfl | hm
    · exact wf_i64 hw
    · exact hz z hm
theorem bools_of (vs : List Value) (h : ∀ u ∈ vs, ∃ b, u = Value.bool b) : ∃ l : List Bool, vs = l.map Value.bool := by
  induction vs with
  | nil => exact ⟨[], rfl⟩
  | cons u vs ih =>
    obtain ⟨l, rfl⟩ := ih fun x hx => h x (List.mem_cons_of_mem _ hx)
    obtain ⟨b, rfl⟩ := h u (List.mem_cons_self ..)
    exact ⟨b :: l, rfl⟩
/-- Each of a list stands to something: the list with these. -/
theorem pairs_of {α β : Type} {R : α → β → Prop} (vs : List α) (h : ∀ u ∈ vs, ∃ y, R u y) : ∃ ps : List (α × β), vs = ps.map (·.1) ∧ ∀ p ∈ ps, R p.1 p.2 := by
  induction vs with
  | nil => exact ⟨[], rfl, by simp⟩
  | cons u vs ih =>
    obtain ⟨ps, rfl, hp⟩ := ih fun x hx => h x (List.mem_cons_of_mem _ hx)
    obtain ⟨y, hy⟩ := h u (List.mem_cons_self ..)
    refine ⟨(u, y) :: ps, rfl, fun p hm => ?_⟩
    rcases List.mem_cons.1 hm with rfl | hm
    · exact hy
    · exact hp p hm

section
variable {H : Type} {enc : TypeId × Value → H} {P : Program} {w : World} {base : Nat} {spare : Nat → Bool} {held : Bool}

/-- A slice, an element one cell. -/
theorem slice1_of {t e : TypeId} {fuel : Nat} {v : Value} {x : DataW H × List MemPlace} (ht : P.underlying t = some (.slice e)) (hc : P.cellsOf e = 1) (h : DataW.trod enc P w base spare held fuel t [v] = some x) :
    ∃ vs : List Value, Rd w 1 v vs.length vs ∧ vs.length ≤ maxLen ∧ ∀ u ∈ vs, ∃ n y, DataW.trod enc P w base spare held n e [u] = some y := by
  rcases open_slice1 ht hc h with ⟨h1, _⟩ | ⟨a, len, cap, m, n, V, D, Pl, h1, hb, hl, hm, hmm, hx, hV⟩
  · injection h1 with h1; subst h1
    exact ⟨[], ⟨rfl, none, 0, rfl, Nat.le_refl _, fun _ => rfl, fun ad h => by cases h⟩, by unfold maxLen; simp, by simp⟩
  · injection h1 with h1; subst h1
    have hle : len ≤ m := by rw [hmm]; split <;> omega
    refine ⟨(List.range len).map V, ⟨by simp, some a, cap, by simp, by simpa using hl, (fun h => by cases h), fun ad had => ?_⟩, by simp; omega, fun u hu => ?_⟩
    · injection had with had; subst had
      refine ⟨fun hp => ?_, fun j u hu => ?_⟩
      · have := (hV 0 (by simp at hp; omega)).1
        have := World.block_lt_of_cell? _ _ this
        rwa [block_of_add] at this
      · simp only [List.getElem?_map] at hu
        have hj : j < len := by
          rcases Nat.lt_or_ge j len with h | h
          · exact h
          · simp [List.getElem?_eq_none (show (List.range len).length ≤ j by simpa using h)] at hu
        simp [List.getElem?_range hj] at hu
        subst hu
        exact (hV j (by omega)).1
    · simp only [List.mem_map, List.mem_range] at hu
      obtain ⟨i, hi, rfl⟩ := hu
      exact ⟨n, _, (hV i (by omega)).2⟩

theorem rdB_of {t e : TypeId} {fuel : Nat} {v : Value} {x : DataW H × List MemPlace} (ht : P.underlying t = some (.slice e)) (he : P.underlying e = some (.int .u8)) (hc : P.cellsOf e = 1) (h : DataW.trod enc P w base spare held fuel t [v] = some x) :
    ∃ l, RdB w v l ∧ l.length ≤ maxLen := by
  obtain ⟨vs, hr, hm, hu⟩ := slice1_of ht hc h
  obtain ⟨l, rfl⟩ := bytes_of vs fun u hmem => by
    obtain ⟨n, y, hy⟩ := hu u hmem
    obtain ⟨k, h1, _, h3⟩ := DataW.trod_int he hy
    injection h1 with h1
    exact ⟨k, h1, h3⟩
  rw [bs_length] at hr hm
  exact ⟨l, hr, hm⟩
theorem rdI_of {t e : TypeId} {fuel : Nat} {v : Value} {x : DataW H × List MemPlace} (ht : P.underlying t = some (.slice e)) (he : P.underlying e = some (.int .i64)) (hc : P.cellsOf e = 1) (h : DataW.trod enc P w base spare held fuel t [v] = some x) :
    ∃ l, RdI w v l ∧ I64 l ∧ l.length ≤ maxLen := by
  obtain ⟨vs, hr, hm, hu⟩ := slice1_of ht hc h
  obtain ⟨l, rfl, hl⟩ := ints_of vs fun u hmem => by
    obtain ⟨n, y, hy⟩ := hu u hmem
    obtain ⟨k, h1, _, h3⟩ := DataW.trod_int he hy
    injection h1 with h1
    exact ⟨k, h1, h3⟩
  rw [List.length_map] at hr hm
  exact ⟨l, hr, hl, hm⟩
theorem rdT_of {t e : TypeId} {fuel : Nat} {v : Value} {x : DataW H × List MemPlace} (ht : P.underlying t = some (.slice e)) (he : P.underlying e = some .bool) (hc : P.cellsOf e = 1) (h : DataW.trod enc P w base spare held fuel t [v] = some x) :
    ∃ l, RdT w v l ∧ l.length ≤ maxLen := by
  obtain ⟨vs, hr, hm, hu⟩ := slice1_of ht hc h
  obtain ⟨l, rfl⟩ := bools_of vs fun u hmem => by
    obtain ⟨n, y, hy⟩ := hu u hmem
    obtain ⟨k, h1, _⟩ := DataW.trod_bool he hy
    injection h1 with h1
    exact ⟨k, h1⟩
  rw [List.length_map] at hr hm
  exact ⟨l, hr, hm⟩
theorem rdR_of {t e b : TypeId} {fuel : Nat} {v : Value} {x : DataW H × List MemPlace} (ht : P.underlying t = some (.slice e)) (he : P.underlying e = some (.slice b)) (hb : P.underlying b = some (.int .u8)) (hc : P.cellsOf e = 1) (hcb : P.cellsOf b = 1) (h : DataW.trod enc P w base spare held fuel t [v] = some x) :
    ∃ ps, RdR w v ps ∧ ps.length ≤ maxLen := by
  obtain ⟨vs, hr, hm, hu⟩ := slice1_of ht hc h
  obtain ⟨ps, rfl, hp⟩ := pairs_of (R := RdB w) vs fun u hmem => by
    obtain ⟨n, y, hy⟩ := hu u hmem
    obtain ⟨l, hl, _⟩ := rdB_of he hb hcb hy
    exact ⟨l, hl⟩
  rw [List.length_map] at hr hm
  exact ⟨ps, ⟨hr, hp⟩, hm⟩

/-- A slice of structs, each field one cell: for each element its cells, and each field's reading. -/
theorem rows_of {t e : TypeId} {fs : Array Field} {fuel : Nat} {v : Value} {x : DataW H × List MemPlace} (ht : P.underlying t = some (.slice e)) (he : P.underlying e = some (.struct fs))
    (hone : oneCellFields P fs = true) (hS : 0 < fs.size) (hC : P.cellsOf e = fs.size) (h : DataW.trod enc P w base spare held fuel t [v] = some x) :
    ∃ rs : List (List Value), Rd w fs.size v rs.length rs.flatten ∧ rs.length ≤ maxLen ∧ ∀ r ∈ rs, r.length = fs.size ∧
      ∀ (j : Nat) (f : Field), fs[j]? = some f → ∃ u n y, r[j]? = some u ∧ DataW.trod enc P w base spare held n f.type [u] = some y := by
  rcases open_slice ht h with ⟨h1, _⟩ | ⟨a, len, cap, m, n, D, Pl, h1, hb, hl, hm, hmm, hx, hi⟩
  · injection h1 with h1; subst h1
    exact ⟨[], ⟨by simp, none, 0, rfl, Nat.le_refl _, fun _ => rfl, fun ad h => by cases h⟩, by unfold maxLen; simp, by simp⟩
  · injection h1 with h1; subst h1
    have hle : len ≤ m := by rw [hmm]; split <;> omega
    rw [hC] at hi
    obtain ⟨V, hV⟩ := choose_lt (α := List Value) (p := fun i cs' => w.cells? base (a.add (i * fs.size)) fs.size = some cs' ∧ DataW.trod enc P w base spare held n e cs' = some (D i, Pl i)) (n := m) (fun i him => hi i him)
    have hfl : ∀ i, i < len → (V i).length = fs.size := fun i h => (World.cells?_some (hV i (by omega)).1).2.1
    have hlen : ∀ k, k ≤ len → ((List.range k).map V).flatten.length = k * fs.size := by
      intro k hk
      induction k with
      | zero => simp
      | succ k ih =>
        rw [List.range_succ, List.map_append, List.flatten_append, List.length_append, ih (by omega)]
        simp [hfl k (by omega), Nat.add_mul]
    have hget : ∀ k, k ≤ len → ∀ (j : Nat) (u : Value), ((List.range k).map V).flatten[j]? = some u → w.cell? (a.add j) = some u := by
      intro k hk
      induction k with
      | zero => intro j u hu; simp at hu
      | succ k ih =>
        intro j u hu
        rw [List.range_succ, List.map_append, List.flatten_append, List.getElem?_append, hlen k (by omega)] at hu
        split at hu
        · exact ih (by omega) j u hu
        · simp only [List.map_cons, List.map_nil, List.flatten_cons, List.flatten_nil, List.append_nil] at hu
          have hj : j - k * fs.size < fs.size := by
            have := (List.getElem?_eq_some_iff.1 hu).1
            rw [hfl k (by omega)] at this
            exact this
          have h2 := (World.cells?_some (hV k (by omega)).1).2.2 (j - k * fs.size) hj
          rw [add_of_add, show k * fs.size + (j - k * fs.size) = j by omega] at h2
          rw [h2, hu]
    refine ⟨(List.range len).map V, ⟨by rw [hlen len (Nat.le_refl _)]; simp, some a, cap, by simp, by simpa using hl, (fun h => by cases h), fun ad had => ?_⟩, by simp; omega, fun r hr => ?_⟩
    · injection had with had; subst had
      refine ⟨fun hp => ?_, hget len (Nat.le_refl _)⟩
      have hp' : 0 < len := by simpa using hp
      have h0 := (hV 0 (by omega)).1
      have h1 := (World.cells?_some h0).2.2 0 hS
      rw [List.getElem?_eq_getElem (by rw [hfl 0 hp']; exact hS)] at h1
      have := World.block_lt_of_cell? _ _ h1
      rwa [block_of_add, block_of_add] at this
    · simp only [List.mem_map, List.mem_range] at hr
      obtain ⟨i, hil, rfl⟩ := hr
      obtain ⟨hc, htd⟩ := hV i (by omega)
      obtain ⟨ys, n', hn', hy, hlen', hyl, hf⟩ := DataW.trod_struct he htd
      refine ⟨hfl i hil, fun j f hj => ?_⟩
      obtain ⟨ho, hk⟩ := hone_of hone j f hj
      have hjl : j < fs.size := (Array.getElem?_eq_some_iff.1 hj).1
      have h1 := hf j f hj
      rw [ho, hk] at h1
      have hvl := hfl i hil
      have hone' : ((V i).drop j).take 1 = [(V i)[j]'(by omega)] := by
        rw [List.drop_eq_getElem_cons (by omega)]
        rfl
      rw [hone', List.getElem?_eq_getElem (by omega)] at h1
      exact ⟨_, n', _, List.getElem?_eq_getElem (by omega), h1⟩
end

section
variable {H : Type} {enc : TypeId × Value → H} {P : Program} {w : World} {base b0 : Nat} {spare : Nat → Bool} {held : Bool} {r : Reach} {t : TypeId} {v : Value} {d : DataW H} {ps : List MemPlace}
theorem op_int (ht : P.underlying t = some (.int .i64)) (hv : Value.okWide P w r b0 t v) (h : DataW.Trod enc P w base spare held t v d ps) : ∃ n, v = .int .i64 n ∧ -9223372036854775808 ≤ n ∧ n ≤ 9223372036854775807 := by
  obtain ⟨n, rfl, _, _, hw⟩ := open_int ht hv h
  exact ⟨n, rfl, (wf_i64 hw).1, (wf_i64 hw).2⟩
theorem op_slice {e : TypeId} (ht : P.underlying t = some (.slice e)) (hv : Value.okWide P w r b0 t v) (h : DataW.Trod enc P w base spare held t v d ps) : ∃ fuel, DataW.trod enc P w base spare held fuel t [v] = some (d, ps) := by
  obtain ⟨a, len, cap, rfl⟩ := okWide_slice ht hv
  obtain ⟨fuel, hf⟩ := h
  exact ⟨fuel, by simpa [Value.cells] using hf⟩
end
end Go.Proofs.YtjiafaiklmbbeaaDoor
