/- From a reading of an argument to plain facts: strings, slices of strings, slices of slices of ints. -/
import Derived.Test.YtjiafaiklmbbeaaDoorOpen3
import Derived.Test.YtjiafaiklmbbeaaDoorSl13
import Derived.ChangeMaps5
namespace Go.Proofs.YtjiafaiklmbbeaaDoor
open Go.RowKit Go.ChangeShapes Go.WideShapes Go.Deep
set_option linter.unusedVariables false
section
variable {H : Type} {enc : TypeId × Value → H} {P : Program} {w : World} {base b0 : Nat} {spare : Nat → Bool} {held : Bool} {r : Reach} {t : TypeId} {v : Value} {d : DataW H} {ps : List MemPlace}
theorem op_str (ht : P.underlying t = some .string) (hv : Value.okWide P w r b0 t v) (h : DataW.Trod enc P w base spare held t v d ps) : ∃ l : List UInt8, v = sV l ∧ l.length ≤ maxLen := by
  obtain ⟨s, rfl, _, _, hs⟩ := Go.ChangeMaps.open_string ht hv h
  refine ⟨s.data.toList, by rw [sV, ← strB_data], ?_⟩
  rw [← strB_size, ← strB_data]
  exact hs
theorem strs_of (vs : List Value) (h : ∀ u ∈ vs, ∃ l : List UInt8, u = sV l) : ∃ ls : List (List UInt8), vs = ss ls := by
  induction vs with
  | nil => exact ⟨[], rfl⟩
  | cons u vs ih =>
    obtain ⟨ls, rfl⟩ := ih fun u hu => h u (by simp [hu])
    obtain ⟨l, rfl⟩ := h u (by simp)
    exact ⟨l :: ls, rfl⟩
theorem rdS_of {e : TypeId} {fuel : Nat} {x : DataW H × List MemPlace} (ht : P.underlying t = some (.slice e)) (he : P.underlying e = some .string) (hc : P.cellsOf e = 1) (h : DataW.trod enc P w base spare held fuel t [v] = some x) :
    ∃ ls : List (List UInt8), Rd w 1 v ls.length (ss ls) ∧ ls.length ≤ maxLen := by
  obtain ⟨vs, hr, hm, hu⟩ := slice1_of ht hc h
  obtain ⟨ls, rfl⟩ := strs_of vs fun u hmem => by
    obtain ⟨n, y, hy⟩ := hu u hmem
    obtain ⟨s, h1, _⟩ := DataW.trod_string he hy
    injection h1 with h1
    exact ⟨s.data.toList, by rw [sV, ← strB_data, h1]⟩
  rw [ss_length] at hr hm
  exact ⟨ls, hr, hm⟩
theorem rdRI_of {e b : TypeId} {fuel : Nat} {x : DataW H × List MemPlace} (ht : P.underlying t = some (.slice e)) (he : P.underlying e = some (.slice b)) (hb : P.underlying b = some (.int .i64)) (hc : P.cellsOf e = 1) (hcb : P.cellsOf b = 1) (h : DataW.trod enc P w base spare held fuel t [v] = some x) :
    ∃ qs : List (Value × List Int), (Rd w 1 v qs.length (qs.map (·.1)) ∧ ∀ q ∈ qs, Rd w 1 q.1 q.2.length (is q.2)) ∧ qs.length ≤ maxLen := by
  obtain ⟨vs, hr, hm, hu⟩ := slice1_of ht hc h
  obtain ⟨qs, rfl, hq⟩ := pairs_of (R := fun v l => RdI w v l) vs fun u hmem => by
    obtain ⟨n, y, hy⟩ := hu u hmem
    obtain ⟨l, hl, _⟩ := rdI_of he hb hcb hy
    exact ⟨l, hl⟩
  rw [List.length_map] at hr hm
  exact ⟨qs, ⟨hr, hq⟩, hm⟩
end
end Go.Proofs.YtjiafaiklmbbeaaDoor
