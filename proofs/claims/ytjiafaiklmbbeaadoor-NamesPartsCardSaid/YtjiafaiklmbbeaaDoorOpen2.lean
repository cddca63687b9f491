/- From a reading of an argument to plain facts: structs and arrays by value, slices of them. -/
import Derived.Test.YtjiafaiklmbbeaaDoorOpen
import Derived.Test.YtjiafaiklmbbeaaDoorSl7
import Derived.OpenShut
namespace Go.Proofs.YtjiafaiklmbbeaaDoor
open Go.RowKit Go.ChangeShapes Go.WideShapes Go.Deep
set_option linter.unusedVariables false
section
variable {H : Type} {enc : TypeId × Value → H} {P : Program} {w : World} {base : Nat} {spare : Nat → Bool} {held : Bool}
/-- These cells read as a value of the type. -/
def Tr (enc : TypeId × Value → H) (P : Program) (w : World) (base : Nat) (spare : Nat → Bool) (held : Bool) (t : TypeId) (cs : List Value) : Prop := ∃ fuel x, DataW.trod enc P w base spare held fuel t cs = some x
theorem Tr.int {t : TypeId} {cs : List Value} (ht : P.underlying t = some (.int .i64)) (h : Tr enc P w base spare held t cs) : ∃ n, cs = [.int .i64 n] ∧ -9223372036854775808 ≤ n ∧ n ≤ 9223372036854775807 := by
  obtain ⟨f, x, h⟩ := h
  obtain ⟨n, rfl, _, hw⟩ := DataW.trod_int ht h
  exact ⟨n, rfl, wf_i64 hw⟩
theorem Tr.bool {t : TypeId} {cs : List Value} (ht : P.underlying t = some .bool) (h : Tr enc P w base spare held t cs) : ∃ b, cs = [Value.bool b] := by
  obtain ⟨f, x, h⟩ := h
  obtain ⟨b, rfl, _⟩ := DataW.trod_bool ht h
  exact ⟨b, rfl⟩
theorem Tr.u8 {t : TypeId} {cs : List Value} (ht : P.underlying t = some (.int .u8)) (h : Tr enc P w base spare held t cs) : ∃ x, cs = [bv x] := by
  obtain ⟨f, x, h⟩ := h
  obtain ⟨n, rfl, _, hw⟩ := DataW.trod_int ht h
  have := wf_u8 hw
  refine ⟨UInt8.ofNat n.toNat, ?_⟩
  simp only [bv]
  congr 2
  rw [UInt8.toNat_ofNat']
  omega
theorem Tr.struct {t : TypeId} {cs : List Value} {fs : Array Field} (ht : P.underlying t = some (.struct fs)) (h : Tr enc P w base spare held t cs) : cs.length = P.cellsOf t ∧ ∀ (i : Nat) (f : Field), fs[i]? = some f → Tr enc P w base spare held f.type ((cs.drop f.offset).take (P.cellsOf f.type)) := by
  obtain ⟨f, x, h⟩ := h
  obtain ⟨xs, n, _, _, hl, hx, hf⟩ := DataW.trod_struct ht h
  refine ⟨hl, fun i f hi => ?_⟩
  have h1 := hf i f hi
  have hlt : i < xs.length := by rw [hx]; exact (Array.getElem?_eq_some_iff.1 hi).1
  rw [List.getElem?_eq_getElem hlt] at h1
  exact ⟨n, _, h1⟩
theorem Tr.array {t e : TypeId} {n : Nat} {cs : List Value} (ht : P.underlying t = some (.array n e)) (h : Tr enc P w base spare held t cs) : cs.length = P.cellsOf t ∧ ∀ i, i < n → Tr enc P w base spare held e ((cs.drop (i * P.cellsOf e)).take (P.cellsOf e)) := by
  obtain ⟨f, x, h⟩ := h
  obtain ⟨xs, m, _, _, hl, hx, hf⟩ := DataW.trod_array ht h
  refine ⟨hl, fun i hi => ?_⟩
  have h1 := hf i hi
  rw [List.getElem?_eq_getElem (by omega)] at h1
  exact ⟨m, _, h1⟩
/-- An array of bytes. -/
theorem Tr.bytes {t e : TypeId} {n : Nat} {cs : List Value} (ht : P.underlying t = some (.array n e)) (he : P.underlying e = some (.int .u8)) (hc : P.cellsOf e = 1) (hn : P.cellsOf t = n) (h : Tr enc P w base spare held t cs) : ∃ l, cs = bs l ∧ l.length = n := by
  obtain ⟨hl, hf⟩ := h.array ht
  rw [hn] at hl
  rw [hc] at hf
  have key : ∀ (cs : List Value), (∀ i, i < cs.length → Tr enc P w base spare held e ((cs.drop (i * 1)).take 1)) → ∃ l, cs = bs l := by
    intro cs
    induction cs with
    | nil => intro _; exact ⟨[], rfl⟩
    | cons u cs ih =>
      intro h
      obtain ⟨l, rfl⟩ := ih (fun i hi => by
        have := h (i + 1) (by simpa using hi)
        simpa using this)
      obtain ⟨x, hx⟩ := (h 0 (by simp)).u8 he
      simp at hx
      exact ⟨x :: l, by simp [bs, hx]⟩
  obtain ⟨l, rfl⟩ := key cs (fun i hi => hf i (by omega))
  exact ⟨l, rfl, by rw [← hl, bs_length]⟩
/-- A slice, an element of any kind. -/
theorem rowsT_of {t e : TypeId} {fuel S : Nat} {v : Value} {x : DataW H × List MemPlace} (ht : P.underlying t = some (.slice e)) (hC : P.cellsOf e = S) (hS : 0 < S) (h : DataW.trod enc P w base spare held fuel t [v] = some x) :
    ∃ rs : List (List Value), Rd w S v rs.length rs.flatten ∧ rs.length ≤ maxLen ∧ ∀ r ∈ rs, r.length = S ∧ Tr enc P w base spare held e r := by
  rcases open_slice ht h with ⟨h1, _⟩ | ⟨a, len, cap, m, n, D, Pl, h1, hb, hl, hm, hmm, hx, hi⟩
  · injection h1 with h1; subst h1
    exact ⟨[], ⟨by simp, none, 0, rfl, Nat.le_refl _, fun _ => rfl, fun ad h => by cases h⟩, by unfold maxLen; simp, by simp⟩
  · injection h1 with h1; subst h1
    have hle : len ≤ m := by rw [hmm]; split <;> omega
    rw [hC] at hi
    obtain ⟨V, hV⟩ := choose_lt (α := List Value) (p := fun i cs' => w.cells? base (a.add (i * S)) S = some cs' ∧ DataW.trod enc P w base spare held n e cs' = some (D i, Pl i)) (n := m) (fun i him => hi i him)
    have hfl : ∀ i, i < len → (V i).length = S := fun i h => (World.cells?_some (hV i (by omega)).1).2.1
    have hlen : ∀ k, k ≤ len → ((List.range k).map V).flatten.length = k * S := by
      intro k hk
      induction k with
      | zero => simp
      | succ k ih =>
        rw [List.range_succ, List.map_append, List.flatten_append, List.length_append, ih (by omega)]
        simp [hfl k (by omega), Nat.add_mul]
    have hget : ∀ k, k ≤ len → ∀ (j : Nat) (u : Value), ((List.range k).map V).flatten[j]? = some u → w.cell? (a.add j) = some u := by
      intro k hk
      induction k with
      | zero => intro j u hu; simp at hu
      | succ k ih =>
        intro j u hu
        rw [List.range_succ, List.map_append, List.flatten_append, List.getElem?_append, hlen k (by omega)] at hu
        split at hu
        · exact ih (by omega) j u hu
        · simp only [List.map_cons, List.map_nil, List.flatten_cons, List.flatten_nil, List.append_nil] at hu
          have hj : j - k * S < S := by
            have := (List.getElem?_eq_some_iff.1 hu).1
            rw [hfl k (by omega)] at this
            exact this
          have h2 := (World.cells?_some (hV k (by omega)).1).2.2 (j - k * S) hj
          rw [add_of_add, show k * S + (j - k * S) = j by omega] at h2
          rw [h2, hu]
    refine ⟨(List.range len).map V, ⟨by rw [hlen len (Nat.le_refl _)]; simp, some a, cap, by simp, by simpa using hl, (fun h => by cases h), fun ad had => ?_⟩, by simp; omega, fun r hr => ?_⟩
    · injection had with had; subst had
      refine ⟨fun hp => ?_, hget len (Nat.le_refl _)⟩
      have hp' : 0 < len := by simpa using hp
      have h0 := (hV 0 (by omega)).1
      have h1 := (World.cells?_some h0).2.2 0 hS
      rw [List.getElem?_eq_getElem (by rw [hfl 0 hp']; exact hS)] at h1
      have := World.block_lt_of_cell? _ _ h1
      rwa [block_of_add, block_of_add] at this
    · simp only [List.mem_map, List.mem_range] at hr
      obtain ⟨i, hil, rfl⟩ := hr
      exact ⟨hfl i hil, _, _, (hV i (by omega)).2⟩
/-- A slice of ids. -/
theorem rdIds_of {t e b : TypeId} {fuel : Nat} {v : Value} {x : DataW H × List MemPlace} (ht : P.underlying t = some (.slice e)) (he : P.underlying e = some (.array 32 b)) (hb : P.underlying b = some (.int .u8)) (hc : P.cellsOf b = 1) (hC : P.cellsOf e = 32) (h : DataW.trod enc P w base spare held fuel t [v] = some x) :
    ∃ l : List (List UInt8), Rd w 32 v l.length (idsC l) ∧ Ids l ∧ l.length ≤ maxLen := by
  obtain ⟨rs, h1, h2, h3⟩ := rowsT_of ht hC (by decide) h
  obtain ⟨l, hl⟩ : ∃ l : List (List UInt8), rs = l.map bs ∧ Ids l := by
    clear h1 h2 h
    induction rs with
    | nil => exact ⟨[], rfl, fun x hx => by simp at hx⟩
    | cons r rs ih =>
      obtain ⟨l, rfl, hi⟩ := ih fun r hr => h3 r (by simp [hr])
      obtain ⟨y, hy, hy2⟩ := (h3 r (by simp)).2.bytes he hb hc hC
      exact ⟨y :: l, by rw [hy]; rfl, fun z hz => by rcases List.mem_cons.1 hz with rfl | hz; exact hy2; exact hi z hz⟩
  obtain ⟨rfl, hi⟩ := hl
  rw [List.length_map] at h1 h2
  exact ⟨l, h1, hi, h2⟩
end
section
variable {H : Type} {enc : TypeId × Value → H} {P : Program} {w : World} {base b0 : Nat} {spare : Nat → Bool} {held : Bool} {r : Reach} {t : TypeId} {v : Value} {d : DataW H} {ps : List MemPlace}
theorem op_struct {fs : Array Field} (ht : P.underlying t = some (.struct fs)) (hv : Value.okWide P w r b0 t v) (h : DataW.Trod enc P w base spare held t v d ps) : ∃ cs : List Value, v = .agg cs.toArray ∧ Tr enc P w base spare held t cs := by
  obtain ⟨cs, rfl, _⟩ := okWide_struct ht hv
  obtain ⟨f, h⟩ := h
  exact ⟨cs.toList, by simp, f, _, h⟩
theorem op_bool (ht : P.underlying t = some .bool) (hv : Value.okWide P w r b0 t v) (h : DataW.Trod enc P w base spare held t v d ps) : ∃ b, v = .bool b := by
  obtain ⟨b, h, _⟩ := open_bool ht hv h
  exact ⟨b, h⟩
theorem op_array {n : Nat} {e : TypeId} (ht : P.underlying t = some (.array n e)) (hv : Value.okWide P w r b0 t v) (h : DataW.Trod enc P w base spare held t v d ps) : ∃ cs : List Value, v = .agg cs.toArray ∧ Tr enc P w base spare held t cs := by
  simp only [Value.okWide, ht] at hv
  obtain ⟨cs, rfl, _⟩ := hv
  obtain ⟨f, h⟩ := h
  exact ⟨cs.toList, by simp, f, _, h⟩
end
end Go.Proofs.YtjiafaiklmbbeaaDoor
