/- Caches by the document: plain words of take. -/
import Derived.Test.YtamhhkjddmjanaaCache5
namespace Go.Proofs.Ytamhhkjddmjanaa
open Go.RowKit
set_option linter.unusedVariables false
set_option linter.unusedSimpArgs false
theorem one_one {p : List UInt8 × Value} (h : p.2.oneCell' = true) : ∀ u ∈ oneC p, u.oneCell' = true := by
  intro u hu
  simp only [oneC, List.mem_append, List.mem_singleton] at hu
  rcases hu with hu | rfl
  · exact bs_one _ u hu
  · exact h
theorem onesC_one {es : MapEs} (h : ∀ p ∈ es, p.2.oneCell' = true) : ∀ u ∈ onesC es, u.oneCell' = true := by
  intro u hu
  simp only [onesC, List.mem_flatten, List.mem_map] at hu
  obtain ⟨_, ⟨p, hp, rfl⟩, hu⟩ := hu
  exact one_one (h p hp) u hu
theorem ones_sub {es : MapEs} (h : Ids (es.map (·.1))) (a b : Nat) : ((onesC es).drop (a * 33)).take ((b - a) * 33) = onesC ((es.drop a).take (b - a)) := by
  rw [onesC_drop h, onesC_take fun x hx => h x (by rw [List.map_drop] at hx; exact List.mem_of_mem_drop hx)]
/-- What take hands out. -/
def tk (es : MapEs) (k : List UInt8) : List UInt8 × Value := match es.lookup k with
  | some v => (k, v)
  | none => (zeroId, .slice none 0 0)
theorem drop_at {k : List UInt8} : ∀ {es : MapEs} {x : Nat} {p : List UInt8 × Value}, es[x]? = some p → (∀ j q, j < x → es[j]? = some q → (q.1 == k) = false) → (p.1 == k) = true → dropK k es = es.eraseIdx x ∧ es.lookup k = some p.2
  | [], x, p, hp, _, _ => by simp at hp
  | e :: es, 0, p, hp, _, h => by
    simp at hp
    subst hp
    have hk : e.1 = k := by simpa using h
    subst hk
    exact ⟨by rw [dropK_head]; rfl, by simp [List.lookup]⟩
  | e :: es, x + 1, p, hp, hno, h => by
    have h0 := hno 0 e (by omega) (by simp)
    have hne : (k == e.1) = false := by
      have : ¬ e.1 = k := by simpa using h0
      simpa using fun h => this h.symm
    obtain ⟨i1, i2⟩ := drop_at (es := es) (x := x) (p := p) (by simpa using hp) (fun j q hj hq => hno (j + 1) q (by omega) (by simpa using hq)) h
    refine ⟨?_, ?_⟩
    · unfold dropK at i1 ⊢
      rw [List.eraseP_cons_of_neg (by simp [hne]), i1, List.eraseIdx_cons_succ]
    · rw [List.lookup, hne]
      exact i2
theorem drop_no {k : List UInt8} {es : MapEs} (hno : ∀ j q, j < es.length → es[j]? = some q → (q.1 == k) = false) : dropK k es = es ∧ es.lookup k = none := by
  have hn : k ∉ es.map (·.1) := by
    intro hm
    obtain ⟨q, hq, rfl⟩ := List.mem_map.1 hm
    obtain ⟨j, hj, rfl⟩ := List.mem_iff_getElem.1 hq
    have := hno j es[j] hj (List.getElem?_eq_getElem hj)
    simp at this
  exact ⟨dropK_none hn, lookup_none hn⟩
theorem erase_parts (es : MapEs) {x : Nat} (hx : x < es.length) : onesC ((es.drop 0).take (x - 0)) ++ onesC ((es.drop (x + 1)).take (es.length - (x + 1))) = onesC (es.eraseIdx x) := by
  rw [← onesC_append, List.eraseIdx_eq_take_drop_succ]
  congr 2
  rw [List.take_of_length_le (by simp)]
end Go.Proofs.Ytamhhkjddmjanaa
