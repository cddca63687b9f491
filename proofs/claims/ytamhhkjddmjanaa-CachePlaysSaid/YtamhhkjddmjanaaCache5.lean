/- Caches by the document: the object as a resource. -/
import Derived.Test.YtamhhkjddmjanaaCache2
namespace Go.Proofs.Ytamhhkjddmjanaa
open Go.RowKit
set_option linter.unusedVariables false
set_option linter.unusedSimpArgs false
def oneC (p : List UInt8 × Value) : List Value := bs p.1 ++ [p.2]
def onesC (es : MapEs) : List Value := (es.map oneC).flatten
theorem onesC_cons (p : List UInt8 × Value) (es : MapEs) : onesC (p :: es) = oneC p ++ onesC es := by simp [onesC]
theorem onesC_append (a b : MapEs) : onesC (a ++ b) = onesC a ++ onesC b := by simp [onesC]
theorem oneC_length {p : List UInt8 × Value} (h : p.1.length = 32) : (oneC p).length = 33 := by simp [oneC, bs_length, h]
theorem onesC_length : ∀ {es : MapEs}, Ids (es.map (·.1)) → (onesC es).length = es.length * 33
  | [], _ => rfl
  | p :: es, h => by
    have ih := onesC_length (es := es) fun x hx => h x (by simp at hx ⊢; exact .inr hx)
    rw [onesC_cons, List.length_append, oneC_length (h p.1 (by simp)), ih, List.length_cons]
    omega
theorem onesC_drop {es : MapEs} (h : Ids (es.map (·.1))) : ∀ i, (onesC es).drop (i * 33) = onesC (es.drop i) := by
  intro i
  rcases Nat.lt_or_ge es.length i with hi | hi
  · rw [List.drop_of_length_le (by rw [onesC_length h]; omega), List.drop_of_length_le (by omega)]; rfl
  · have hl : (onesC (es.take i)).length = i * 33 := by
      rw [onesC_length fun x hx => h x (by rw [List.map_take] at hx; exact List.mem_of_mem_take hx), List.length_take, Nat.min_eq_left hi]
    have e : onesC es = onesC (es.take i) ++ onesC (es.drop i) := by rw [← onesC_append, List.take_append_drop]
    rw [e, ← hl, List.drop_left]
theorem onesC_take {es : MapEs} (h : Ids (es.map (·.1))) (i : Nat) : (onesC es).take (i * 33) = onesC (es.take i) := by
  rcases Nat.lt_or_ge es.length i with hi | hi
  · rw [List.take_of_length_le (by rw [onesC_length h]; omega), List.take_of_length_le (by omega)]
  · have hl : (onesC (es.take i)).length = i * 33 := by
      rw [onesC_length fun x hx => h x (by rw [List.map_take] at hx; exact List.mem_of_mem_take hx), List.length_take, Nat.min_eq_left hi]
    have e : onesC es = onesC (es.take i) ++ onesC (es.drop i) := by rw [← onesC_append, List.take_append_drop]
    rw [e, ← hl, List.take_left]
theorem onesC_at {es : MapEs} (h : Ids (es.map (·.1))) {i : Nat} (hi : i < es.length) : ((onesC es).drop (i * 33)).take 33 = oneC es[i] ∧ ((onesC es).drop (i * 33)).take 32 = bs es[i].1 ∧ (onesC es)[i * 33 + 32]? = some es[i].2 := by
  have hk : es[i].1.length = 32 := h _ (List.mem_map_of_mem (List.getElem_mem hi))
  have e : (onesC es).drop (i * 33) = oneC es[i] ++ onesC (es.drop (i + 1)) := by rw [onesC_drop h, List.drop_eq_getElem_cons hi, onesC_cons]
  refine ⟨?_, ?_, ?_⟩
  · rw [e, ← oneC_length hk, List.take_left]
  · rw [e, oneC, List.append_assoc, ← hk, ← bs_length, List.take_left]
  · rw [← List.getElem?_drop, e, List.getElem?_append_left (by rw [oneC_length hk]; decide), oneC, List.getElem?_append_right (by rw [bs_length, hk]; exact Nat.le_refl _)]
    simp [bs_length, hk]
theorem onesC_of {es : MapEs} (h : Ids (es.map (·.1))) {i : Nat} {p : List UInt8 × Value} (hp : es[i]? = some p) : p.1.length = 32 ∧ ((onesC es).drop (i * 33)).take 33 = oneC p ∧ ((onesC es).drop (i * 33)).take 32 = bs p.1 ∧ (onesC es)[i * 33 + 32]? = some p.2 := by
  obtain ⟨hi, rfl⟩ := List.getElem?_eq_some_iff.1 hp
  exact ⟨h _ (List.mem_map_of_mem (List.getElem_mem hi)), onesC_at h hi⟩
theorem total_reverse (L : Ents) : total L.reverse = total L := by
  induction L with
  | nil => rfl
  | cons p L ih => rw [List.reverse_cons, total_append, ih, total_cons]; simp [total]; omega
theorem total_take {L : Ents} {k : Nat} {q : List UInt8 × List UInt8} (h : L[k]? = some q) : total (L.take (k + 1)) = total (L.take k) + q.2.length := by
  rw [List.take_add_one, total_append, h]
  simp [total]
theorem total_take_le (L : Ents) (k : Nat) : total (L.take k) ≤ total L := by
  conv => rhs; rw [← List.take_append_drop k L, total_append]
  omega
theorem keys_reverse (L : Ents) : keys L.reverse = (keys L).reverse := by simp [keys]
def dataR (es : MapEs) (L : Ents) : HP := fun h => ∀ (j : Nat) (p : List UInt8 × Value) (q : List UInt8 × List UInt8), es[j]? = some p → L[j]? = some q → rdB p.2 q.2 h
abbrev refParts (g room : Nat) (L : Ents) (v : Value) (es : MapEs) : List HP := [blk g 49 [.int .i64 (room : Int), v], rowP 51 33 v L.length (onesC es), dataR es L]
/-- The document's cache: the last used first. -/
def refP (g room : Nat) (L : Ents) : HP := fun h => (Gd room L.reverse) ∧ ∃ q : Value × MapEs, q.2.map (·.1) = keys L ∧ (∀ p ∈ q.2, p.2.oneCell' = true) ∧ q.1.oneCell' = true ∧ starL (refParts g room L q.1 q.2) h
theorem closeRef {g room : Nat} {L : Ents} {v : Value} {es : MapEs} (hg : Gd room L.reverse) (hk : es.map (·.1) = keys L) (h1 : ∀ p ∈ es, p.2.oneCell' = true) (ho : v.oneCell' = true) {h : Hlt} (hs : starL (refParts g room L v es) h) : refP g room L h := ⟨hg, (v, es), hk, h1, ho, hs⟩
theorem W_openRef {P : Program} {E : Env} {n : Nat} {K : Slots} {L : Res} {Q : Exit → Act → World → Prop} {c : Code} (r b : Nat) {g room : Nat} {l : Ents} (hr : look L r = some (refP g room l))
    (k : ∀ v es, Gd room l.reverse → es.map (·.1) = keys l → (∀ p ∈ es, p.2.oneCell' = true) → v.oneCell' = true → W P E n c K (En b (refParts g room l v es) ++ (r, emp) :: L) Q) : W P E n c K L Q := fun a w hA hS => by
  have hg := hS.get hr fun h hp => hp.1
  obtain ⟨q, hS2⟩ := hS.ex hr fun h hp => hp.2
  obtain ⟨h1, h2, h3⟩ := hS2.get (look_same _ _ _) fun h hp => (⟨hp.1, hp.2.1, hp.2.2.1⟩ : q.2.map (·.1) = keys l ∧ (∀ p ∈ q.2, p.2.oneCell' = true) ∧ q.1.oneCell' = true)
  have hS3 := hS2.split (b := b) (Ps := refParts g room l q.1 q.2) (look_same _ _ _) (fun h hp => hp.2.2.2)
  refine k q.1 q.2 hg h1 h2 h3 a w hA (hS3.sub fun r' P' h => ?_)
  rw [look_append] at h ⊢
  cases hl : look (En b (refParts g room l q.1 q.2)) r' with
  | some X => rw [hl] at h; exact h
  | none =>
    rw [hl] at h
    simp only [Option.orElse_eq_orElse, Option.orElse, Option.none_or] at h ⊢
    by_cases hrr : r = r'
    · subst hrr; rw [look_same] at h ⊢; exact h
    · rw [look_other hrr] at h; rw [look_other hrr, look_other hrr]; exact h
end Go.Proofs.Ytamhhkjddmjanaa
