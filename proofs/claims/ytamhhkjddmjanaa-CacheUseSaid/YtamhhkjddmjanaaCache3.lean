/- Caches: plain words of the law of use. -/
import Derived.Test.YtamhhkjddmjanaaCache2
namespace Go.Proofs.Ytamhhkjddmjanaa
set_option linter.unusedVariables false
set_option linter.unusedSimpArgs false
def z10 : List UInt8 := List.replicate 10 0
/-- A cache of these, the last used first. -/
def useL (last : List Int) : Ents := last.reverse.map fun k => (keyB k, z10)
structure Us (n : Nat) (last : List Int) : Prop where
  nodup : last.Nodup
  few : ∀ k ∈ last, 0 ≤ k ∧ k < 12
  len : last.length ≤ n
def restTo (last : List Int) (k : Int) (j : Nat) : List Int := (last.take j).filter fun y => !decide (y = k)
def hadTo (last : List Int) (k : Int) (j : Nat) : Bool := (last.take j).any fun y => decide (y = k)
def rest (last : List Int) (k : Int) : List Int := last.filter fun y => !decide (y = k)
def had (last : List Int) (k : Int) : Bool := last.any fun y => decide (y = k)
theorem restTo_all (last : List Int) (k : Int) : restTo last k last.length = rest last k ∧ hadTo last k last.length = had last k := by simp [restTo, hadTo, rest, had]
theorem to_succ {last : List Int} {k : Int} {j : Nat} (h : j < last.length) : last.take (j + 1) = last.take j ++ [last.getD j 0] := by
  rw [List.take_add_one]
  simp [h]
theorem restTo_yes {last : List Int} {k : Int} {j : Nat} (h : j < last.length) (he : last.getD j 0 = k) : restTo last k (j + 1) = restTo last k j ∧ hadTo last k (j + 1) = true := by
  unfold restTo hadTo
  rw [to_succ (k := k) h]
  simp only [List.filter_append, List.any_append, he]
  simp
theorem restTo_no {last : List Int} {k : Int} {j : Nat} (h : j < last.length) (he : ¬ last.getD j 0 = k) : restTo last k (j + 1) = restTo last k j ++ [last.getD j 0] ∧ hadTo last k (j + 1) = hadTo last k j := by
  unfold restTo hadTo
  rw [to_succ (k := k) h]
  rw [List.filter_append, List.any_append]
  simp only [List.filter_cons, List.any_cons, decide_eq_false he]
  simp
theorem restTo_len (last : List Int) (k : Int) (j : Nat) : (restTo last k j).length ≤ last.length := by
  unfold restTo
  exact Nat.le_trans (List.length_filter_le _ _) (by rw [List.length_take]; omega)
theorem rest_len (last : List Int) (k : Int) : (rest last k).length ≤ last.length := List.length_filter_le _ _
theorem useL_cons (k : Int) (l : List Int) : useL (k :: l) = useL l ++ [(keyB k, z10)] := by simp [useL]
theorem useL_snoc (k : Int) (l : List Int) : useL (l ++ [k]) = (keyB k, z10) :: useL l := by simp [useL]
theorem useL_total (l : List Int) : total (useL l) = 10 * l.length := by
  induction l with
  | nil => rfl
  | cons k l ih => rw [useL_cons, total_append, ih]; simp [total, z10]; omega
theorem keyB_eq {a b : Int} (ha : 0 ≤ a ∧ a < 12) (hb : 0 ≤ b ∧ b < 12) : keyB a = keyB b ↔ a = b := by
  refine ⟨fun h => ?_, fun h => by rw [h]⟩
  have := keyB_inj h
  omega
theorem useL_keys {last : List Int} {k : Int} (hf : ∀ y ∈ last, 0 ≤ y ∧ y < 12) (hk : 0 ≤ k ∧ k < 12) : keyB k ∈ keys (useL last) ↔ k ∈ last := by
  simp only [keys, useL, List.map_map, List.mem_map, List.mem_reverse, Function.comp_def]
  refine ⟨fun ⟨y, hy, h⟩ => ?_, fun h => ⟨k, h, rfl⟩⟩
  rw [(keyB_eq (hf y hy) hk).1 h] at hy
  exact hy
theorem had_iff (last : List Int) (k : Int) : had last k = true ↔ k ∈ last := by simp [had]
theorem rest_not {last : List Int} {k : Int} (h : had last k = false) : rest last k = last := by
  unfold rest
  rw [List.filter_eq_self]
  intro y hy
  have : ¬ k ∈ last := fun hm => by rw [(had_iff last k).2 hm] at h; cases h
  simp
  intro he
  exact this (he ▸ hy)
theorem use_lookup {n : Nat} {last : List Int} {k : Int} (hu : Us n last) (hk : 0 ≤ k ∧ k < 12) : ((useL last).lookup (keyB k)).isSome = had last k := by
  cases hh : had last k with
  | true =>
    have hm := (useL_keys hu.few hk).2 ((had_iff last k).1 hh)
    obtain ⟨d, hd⟩ := lookup_mem hm
    rw [hd]; rfl
  | false =>
    have hm : keyB k ∉ keys (useL last) := fun h => by rw [(had_iff last k).2 ((useL_keys hu.few hk).1 h)] at hh; cases hh
    rw [lookup_none hm]; rfl
theorem use_drop {last : List Int} {k : Int} (hn : last.Nodup) (hf : ∀ y ∈ last, 0 ≤ y ∧ y < 12) (hk : 0 ≤ k ∧ k < 12) : dropK (keyB k) (useL last) = useL (rest last k) := by
  induction last with
  | nil => rfl
  | cons y l ih =>
    have hy := hf y (by simp)
    have hfl : ∀ z ∈ l, 0 ≤ z ∧ z < 12 := fun z hz => hf z (by simp [hz])
    rw [List.nodup_cons] at hn
    rw [useL_cons]
    by_cases he : y = k
    · subst he
      have hno : keyB y ∉ keys (useL l) := fun h => hn.1 ((useL_keys hfl hy).1 h)
      have e1 : dropK (keyB y) (useL l ++ [(keyB y, z10)]) = useL l := by
        unfold dropK
        rw [List.eraseP_append_right]
        · simp
        · intro p hp hk2
          exact hno (List.mem_map.2 ⟨p, hp, (by simpa using hk2 : keyB y = p.1).symm⟩)
      rw [e1]
      have : rest (y :: l) y = l := by
        unfold rest
        rw [List.filter_cons_of_neg (by simp), List.filter_eq_self]
        intro z hz
        simp
        intro h
        exact hn.1 (h ▸ hz)
      rw [this]
    · have e1 : dropK (keyB k) (useL l ++ [(keyB y, z10)]) = dropK (keyB k) (useL l) ++ [(keyB y, z10)] := by
        unfold dropK
        by_cases hm : ∃ p ∈ useL l, (keyB k == p.1) = true
        · obtain ⟨p, hp, hp2⟩ := hm
          rw [List.eraseP_append_left (p := fun p => keyB k == p.1) hp2 _ hp]
        · rw [List.eraseP_append_right, List.eraseP_of_forall_not (l := useL l) (fun p hp h => hm ⟨p, hp, h⟩)]
          · rw [List.eraseP_cons_of_neg (by simp; exact fun h => he ((keyB_eq hk hy).1 h).symm)]
            rfl
          · intro p hp h
            exact hm ⟨p, hp, h⟩
      rw [e1, ih hn.2 hfl]
      have : rest (y :: l) k = y :: rest l k := by unfold rest; rw [List.filter_cons_of_pos (by simp [he])]
      rw [this, useL_cons]
theorem use_data {last : List Int} {k d} (h : (useL last).lookup k = some d) : d = z10 := by
  have := lookup_some h
  simp only [useL, List.mem_map, List.mem_reverse, Prod.mk.injEq] at this
  obtain ⟨_, _, _, h⟩ := this
  exact h.symm
theorem had_len {last : List Int} {k : Int} (h : had last k = true) : (rest last k).length + 1 ≤ last.length := by
  have hm := (had_iff last k).1 h
  unfold rest
  have := List.length_filter_lt_length_iff_exists (p := fun y => !decide (y = k)) (l := last)
  have h2 := this.2 ⟨k, hm, by simp⟩
  omega
/-- Got: it is moved. -/
theorem use_get {n : Nat} {last : List Int} {k : Int} (hu : Us n last) (hk : 0 ≤ k ∧ k < 12) (hh : had last k = true) : getC (useL last) (keyB k) = useL ((k :: rest last k).take n) := by
  obtain ⟨d, hd⟩ := Option.isSome_iff_exists.1 ((use_lookup hu hk).trans hh)
  rw [List.take_of_length_le (by have := had_len hh; have := hu.len; simp; omega), useL_cons, getC, hd]
  show dropK (keyB k) (useL last) ++ [(keyB k, d)] = _
  rw [use_drop hu.nodup hu.few hk, use_data hd]
theorem use_evict {n : Nat} (hn : 1 ≤ n) {last : List Int} (hl : last.length ≤ n) : evict (10 * n) 10 (useL last) = useL (last.take (n - 1)) := by
  by_cases h : last.length = n
  · obtain ⟨init, x, rfl⟩ : ∃ init x, last = init ++ [x] := by
      refine ⟨last.dropLast, last.getLast (fun h0 => by rw [h0] at h; simp at h; omega), (List.dropLast_concat_getLast _).symm⟩
    have hil : init.length = n - 1 := by simp at h; omega
    rw [useL_snoc, evict_cons (by rw [← useL_snoc, useL_total]; simp; omega), evict_done (by rw [useL_total]; omega), ← hil, List.take_left]
  · rw [evict_done (by rw [useL_total]; omega), List.take_of_length_le (by omega)]
/-- Put: it is there, and the last one has gone. -/
theorem use_put {n : Nat} (hn : 1 ≤ n) {last : List Int} {k : Int} (hu : Us n last) (hk : 0 ≤ k ∧ k < 12) (hh : had last k = false) : putC (10 * n) (getC (useL last) (keyB k)) (keyB k) z10 = useL ((k :: rest last k).take n) ∧ putB (10 * n) z10 = true := by
  have hno : (useL last).lookup (keyB k) = none := by
    have := use_lookup hu hk
    rw [hh] at this
    simpa using this
  have hg : getC (useL last) (keyB k) = useL last := by rw [getC, hno]
  obtain ⟨h1, h2, _⟩ := putC_good (room := 10 * n) (l := getC (useL last) (keyB k)) (k := keyB k) (d := z10) (by simp [z10]; omega)
  refine ⟨?_, h2⟩
  rw [h1, hg]
  have hd : dropK (keyB k) (useL last) = useL last := by rw [use_drop hu.nodup hu.few hk, rest_not hh]
  rw [hd, show z10.length = 10 from rfl, use_evict hn hu.len, rest_not hh]
  obtain ⟨m, rfl⟩ : ∃ m, n = m + 1 := ⟨n - 1, by omega⟩
  rw [List.take_succ_cons, useL_cons, show m + 1 - 1 = m by omega]
theorem Us.next {n : Nat} {last : List Int} {k : Int} (hu : Us n last) (hk : 0 ≤ k ∧ k < 12) : Us n ((k :: rest last k).take n) where
  nodup := by
    refine List.Nodup.sublist (List.take_sublist _ _) ?_
    rw [List.nodup_cons]
    refine ⟨by simp [rest], hu.nodup.sublist List.filter_sublist⟩
  few := fun y hy => by
    have := List.mem_of_mem_take hy
    rcases List.mem_cons.1 this with rfl | h
    · exact hk
    · exact hu.few y (List.mem_filter.1 h).1
  len := by rw [List.length_take]; omega
end Go.Proofs.Ytamhhkjddmjanaa
