/- Caches: plain words. -/
import Derived.Test.YtamhhkjddmjanaaIdL
namespace Go.Proofs.Ytamhhkjddmjanaa
set_option linter.unusedVariables false
set_option linter.unusedSimpArgs false
abbrev Ents := List (List UInt8 × List UInt8)
def keys (l : Ents) : List (List UInt8) := l.map (·.1)
def total (l : Ents) : Nat := (l.map (·.2.length)).sum
def dropK {α : Type} (k : List UInt8) (l : List (List UInt8 × α)) : List (List UInt8 × α) := l.eraseP (fun p => k == p.1)
/-- A cache as it must be. -/
structure Gd (room : Nat) (l : Ents) : Prop where
  nodup : (keys l).Nodup
  ids : Ids (keys l)
  fits : total l ≤ room
  most : room ≤ 1073741824
  pos : ∀ p ∈ l, 1 ≤ p.2.length
theorem total_cons (p : List UInt8 × List UInt8) (l : Ents) : total (p :: l) = p.2.length + total l := by simp [total]
theorem total_append (l m : Ents) : total (l ++ m) = total l + total m := by simp [total]
theorem keys_append (l m : Ents) : keys (l ++ m) = keys l ++ keys m := by simp [keys]
theorem keys_length (l : Ents) : (keys l).length = l.length := by simp [keys]
theorem length_le_total : ∀ {l : Ents}, (∀ p ∈ l, 1 ≤ p.2.length) → l.length ≤ total l
  | [], _ => by simp
  | p :: l, h => by
    have h1 := h p (by simp)
    have h2 := length_le_total (l := l) fun q hq => h q (by simp [hq])
    rw [total_cons, List.length_cons]
    omega
theorem Gd.len {room : Nat} {l : Ents} (h : Gd room l) : l.length ≤ 1073741824 := by
  have := length_le_total h.pos
  have := h.fits
  have := h.most
  omega
theorem dropK_sub {α : Type} (k : List UInt8) (l : List (List UInt8 × α)) : (dropK k l).Sublist l := List.eraseP_sublist
theorem dropK_map {α : Type} (k : List UInt8) : ∀ l : List (List UInt8 × α), (dropK k l).map (·.1) = (l.map (·.1)).erase k
  | [] => rfl
  | p :: l => by
    have ih := dropK_map k l
    unfold dropK at ih ⊢
    rw [List.map_cons, List.erase_cons]
    cases h : k == p.1 with
    | true =>
      have : k = p.1 := by simpa using h
      rw [List.eraseP_cons_of_pos (by simpa using h), if_pos (by simp [this])]
    | false =>
      have : ¬ k = p.1 := by simpa using h
      rw [List.eraseP_cons_of_neg (by simpa using h), if_neg (by simp; exact fun h => this h.symm), List.map_cons, ih]
theorem keys_drop (k : List UInt8) (l : Ents) : keys (dropK k l) = (keys l).erase k := dropK_map k l
theorem dropK_none {α : Type} {k : List UInt8} {l : List (List UInt8 × α)} (h : k ∉ l.map (·.1)) : dropK k l = l := by
  apply List.eraseP_of_forall_not
  intro p hp hk
  exact h (List.mem_map.2 ⟨p, hp, (by simpa using hk : k = p.1).symm⟩)
theorem lookup_none {α : Type} {k : List UInt8} : ∀ {l : List (List UInt8 × α)}, k ∉ l.map (·.1) → l.lookup k = none
  | [], _ => rfl
  | p :: l, h => by
    rw [List.lookup]
    have h1 : (k == p.1) = false := by
      cases hb : k == p.1 with
      | false => rfl
      | true => exact absurd (by simp [show k = p.1 by simpa using hb]) h
    rw [h1]
    exact lookup_none fun hm => h (by simp only [List.map_cons, List.mem_cons]; exact .inr hm)
theorem lookup_some {α : Type} {k : List UInt8} {d : α} : ∀ {l : List (List UInt8 × α)}, l.lookup k = some d → (k, d) ∈ l
  | [], h => by cases h
  | p :: l, h => by
    rw [List.lookup] at h
    cases hb : k == p.1 with
    | false => rw [hb] at h; simp only at h; exact List.mem_cons_of_mem _ (lookup_some h)
    | true =>
      rw [hb] at h
      simp only [Option.some.injEq] at h
      have : k = p.1 := by simpa using hb
      subst h
      rw [this]
      simp
theorem lookup_mem {α : Type} {k : List UInt8} {l : List (List UInt8 × α)} (h : k ∈ l.map (·.1)) : ∃ d, l.lookup k = some d := by
  induction l with
  | nil => simp at h
  | cons p l ih =>
    rw [List.lookup]
    cases hb : k == p.1 with
    | true => exact ⟨_, rfl⟩
    | false =>
      have : ¬ k = p.1 := by simpa using hb
      simp [this] at h
      exact ih (by simpa using h)
theorem lookup_of {α : Type} {k : List UInt8} {d : α} {l : List (List UInt8 × α)} (hn : (l.map (·.1)).Nodup) (h : (k, d) ∈ l) : l.lookup k = some d := by
  induction l with
  | nil => simp at h
  | cons p l ih =>
    rw [List.map_cons, List.nodup_cons] at hn
    rw [List.lookup]
    rcases List.mem_cons.1 h with rfl | h'
    · simp
    · cases hb : k == p.1 with
      | true =>
        have : k = p.1 := by simpa using hb
        exact absurd (List.mem_map.2 ⟨_, h', this⟩) hn.1
      | false => exact ih hn.2 h'
/-- What is left was there. -/
theorem lookup_drop {α : Type} {k j : List UInt8} {d : α} {l : List (List UInt8 × α)} (hn : (l.map (·.1)).Nodup) (h : (dropK k l).lookup j = some d) : l.lookup j = some d :=
  lookup_of hn ((dropK_sub k l).subset (lookup_some h))
theorem total_drop {k : List UInt8} {d : List UInt8} : ∀ {l : Ents}, l.lookup k = some d → total (dropK k l) + d.length = total l
  | [], h => by cases h
  | p :: l, h => by
    rw [List.lookup] at h
    unfold dropK
    cases hb : k == p.1 with
    | true =>
      rw [hb] at h
      simp only [Option.some.injEq] at h
      rw [List.eraseP_cons_of_pos (by simpa using hb), total_cons, h]
      omega
    | false =>
      rw [hb] at h
      have ih := total_drop (l := l) h
      unfold dropK at ih
      rw [List.eraseP_cons_of_neg (by simpa using hb), total_cons, total_cons]
      omega
theorem Gd.drop {room : Nat} {l : Ents} (h : Gd room l) (k : List UInt8) : Gd room (dropK k l) where
  nodup := by rw [keys_drop]; exact h.nodup.erase k
  ids := fun x hx => h.ids x (by rw [keys_drop] at hx; exact List.mem_of_mem_erase hx)
  fits := by
    by_cases hk : k ∈ keys l
    · obtain ⟨d, hd⟩ := lookup_mem hk
      have := total_drop hd
      have := h.fits
      omega
    · rw [dropK_none hk]; exact h.fits
  most := h.most
  pos := fun p hp => h.pos p ((dropK_sub k l).subset hp)
theorem nodup_drop {room : Nat} {l : Ents} (h : Gd room l) (k : List UInt8) : k ∉ keys (dropK k l) := by
  rw [keys_drop]
  exact h.nodup.not_mem_erase
/-- Where a key stands among the keys. -/
theorem idxI_mem {k : List UInt8} {l : List (List UInt8)} (h : k ∈ l) : ∃ i : Nat, idxI k l = i ∧ i < l.length ∧ l.eraseIdx i = l.erase k := by
  have h1 : l.findIdx? (fun y => k == y) = some (l.idxOf k) := by
    rw [List.findIdx?_eq_some_iff_getElem]
    have hlt := List.idxOf_lt_length_of_mem h
    refine ⟨hlt, ?_, fun j hj => ?_⟩
    · simp
    · have := List.not_of_lt_findIdx (xs := l) (p := fun y => y == k) (i := j) (by simpa [List.idxOf] using hj)
      simp at this ⊢
      exact fun h => this h.symm
  refine ⟨l.idxOf k, by simp [idxI, h1], List.idxOf_lt_length_of_mem h, ?_⟩
  rw [List.erase_eq_eraseIdx_of_idxOf rfl]
theorem idxI_not {k : List UInt8} {l : List (List UInt8)} (h : k ∉ l) : idxI k l = -1 :=
  idx_none fun j hj => by
    cases hb : k == l.getD j [] with
    | false => rfl
    | true =>
      have : k = l.getD j [] := by simpa using hb
      rw [List.getD_eq_getElem?_getD, List.getElem?_eq_getElem hj, Option.getD_some] at this
      exact absurd (this ▸ List.getElem_mem hj) h
/-- Room is made. -/
def evict (room n : Nat) : Ents → Ents
  | [] => []
  | p :: l => if n + total (p :: l) ≤ room then p :: l else evict room n l
def putC (room : Nat) (l : Ents) (k d : List UInt8) : Ents := if d.length = 0 ∨ room < d.length then l else evict room d.length (dropK k l) ++ [(k, d)]
def putB (room : Nat) (d : List UInt8) : Bool := !(decide ((d.length : Int) = 0) || decide ((room : Int) < d.length))
def getC (l : Ents) (k : List UInt8) : Ents := match l.lookup k with
  | none => l
  | some d => dropK k l ++ [(k, d)]
end Go.Proofs.Ytamhhkjddmjanaa
