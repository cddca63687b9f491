/- Lists of ids: plain words. -/
import Derived.Test.YtamhhkjddmjanaaSl10
namespace Go.Proofs.Ytamhhkjddmjanaa
set_option linter.unusedVariables false
set_option linter.unusedSimpArgs false
theorem idsC_take {l : List (List UInt8)} (h : Ids l) (i : Nat) : (idsC l).take (i * 32) = idsC (l.take i) := by
  rcases Nat.lt_or_ge l.length i with hi | hi
  · rw [List.take_of_length_le (by rw [idsC_length h]; omega), List.take_of_length_le (by omega)]
  · have hl : (idsC (l.take i)).length = i * 32 := by rw [idsC_length (h.take i), List.length_take, Nat.min_eq_left hi]
    have e : idsC l = idsC (l.take i) ++ idsC (l.drop i) := by rw [← idsC_append, List.take_append_drop]
    rw [e, ← hl, List.take_left]
theorem idsC_drop {l : List (List UInt8)} (h : Ids l) (i : Nat) : (idsC l).drop (i * 32) = idsC (l.drop i) := by
  rcases Nat.lt_or_ge l.length i with hi | hi
  · rw [List.drop_of_length_le (by rw [idsC_length h]; omega), List.drop_of_length_le (by omega)]; rfl
  · have hl : (idsC (l.take i)).length = i * 32 := by rw [idsC_length (h.take i), List.length_take, Nat.min_eq_left hi]
    have e : idsC l = idsC (l.take i) ++ idsC (l.drop i) := by rw [← idsC_append, List.take_append_drop]
    rw [e, ← hl, List.drop_left]
theorem Ids.drop {l : List (List UInt8)} (h : Ids l) (i : Nat) : Ids (l.drop i) := fun x hx => h x (List.mem_of_mem_drop hx)
theorem Ids.erase {l : List (List UInt8)} (h : Ids l) (i : Nat) : Ids (l.eraseIdx i) := fun x hx => h x (List.mem_of_mem_eraseIdx hx)
theorem int_eq {k : IntKind} {a b : Int} (h : a = b) : Value.int k a = Value.int k b := by rw [h]
theorem evK_eq {K : Slots} {x : Operand} {v v' : Value} (h : evK K x = some v) (e : v = v') : evK K x = some v' := e ▸ h
theorem Ids.set {l : List (List UInt8)} (h : Ids l) {i : Nat} {x : List UInt8} (hx : x.length = 32) : Ids (l.set i x) := fun y hy => by
  rcases List.mem_or_eq_of_mem_set hy with h' | rfl
  · exact h y h'
  · exact hx
theorem zeroId_length : zeroId.length = 32 := rfl
/-- Where a key stands. -/
def idxI (k : List UInt8) (l : List (List UInt8)) : Int := match l.findIdx? (fun y => k == y) with
  | some i => i
  | none => -1
theorem idx_found {k : List UInt8} {l : List (List UInt8)} {x : Nat} (hx : x < l.length) (hno : ∀ j, j < x → (k == l.getD j []) = false) (h : (k == l.getD x []) = true) : idxI k l = x := by
  have : l.findIdx? (fun y => k == y) = some x := by
    rw [List.findIdx?_eq_some_iff_getElem]
    refine ⟨hx, by simpa [List.getElem?_eq_getElem hx] using h, fun j hj => ?_⟩
    have := hno j hj
    simpa [List.getElem?_eq_getElem (show j < l.length by omega)] using this
  simp [idxI, this]
theorem idx_none {k : List UInt8} {l : List (List UInt8)} (hno : ∀ j, j < l.length → (k == l.getD j []) = false) : idxI k l = -1 := by
  have : l.findIdx? (fun y => k == y) = none := by
    rw [List.findIdx?_eq_none_iff]
    intro y hy
    obtain ⟨j, hj, rfl⟩ := List.mem_iff_getElem.1 hy
    have := hno j hj
    simpa [List.getElem?_eq_getElem hj] using this
  simp [idxI, this]
/-- What delete leaves. -/
theorem del_cells {l : List (List UInt8)} (hl : Ids l) {i : Nat} (hi : i < l.length) {cs zs : List Value} {cap : Nat} (hcs : cs.length = cap * 32) (hnc : l.length ≤ cap) (htk : cs.take (l.length * 32) = idsC l) :
    (over (over cs (i * 32) (((idsC l).drop ((i + 1) * 32)).take ((l.length - (i + 1)) * 32))) ((i + (l.length - (i + 1))) * 32) zs).take ((i + (l.length - (i + 1))) * 32) = idsC (l.eraseIdx i) := by
  have hN : ((idsC l).drop ((i + 1) * 32)).take ((l.length - (i + 1)) * 32) = idsC (l.drop (i + 1)) := by
    rw [idsC_drop hl, List.take_of_length_le (by rw [idsC_length (hl.drop _), List.length_drop]; omega)]
  have hNl : (idsC (l.drop (i + 1))).length = (l.length - (i + 1)) * 32 := by rw [idsC_length (hl.drop _), List.length_drop]
  have hle : l.length * 32 ≤ cs.length := by rw [hcs]; exact Nat.mul_le_mul_right _ hnc
  have h1 : cs.take (i * 32) = idsC (l.take i) := by
    rw [← idsC_take hl, ← htk, List.take_take, Nat.min_eq_left (by omega)]
  have h1l : (cs.take (i * 32)).length = i * 32 := by rw [List.length_take]; omega
  have hol : (over cs (i * 32) (idsC (l.drop (i + 1)))).length = cs.length := over_length _ _ _ (by rw [hNl]; omega)
  rw [hN]
  have e : (over cs (i * 32) (idsC (l.drop (i + 1)))).take ((i + (l.length - (i + 1))) * 32) = idsC (l.eraseIdx i) := by
    unfold over
    rw [← List.append_assoc, List.take_append_of_le_length (by rw [List.length_append, h1l, hNl]; omega), List.take_of_length_le (by rw [List.length_append, h1l, hNl]; omega), h1, ← idsC_append, List.eraseIdx_eq_take_drop_succ]
  rw [← e]
  show (over (over cs (i * 32) (idsC (l.drop (i + 1)))) _ zs).take _ = _
  generalize over cs (i * 32) (idsC (l.drop (i + 1))) = ds at hol ⊢
  unfold over
  rw [List.take_append_of_le_length (by rw [List.length_take]; omega), List.take_of_length_le (by rw [List.length_take]; omega)]
/-- The first i and the last i changed. -/
def revTo (l : List (List UInt8)) (i : Nat) : List (List UInt8) := (List.range l.length).map fun k => if k < i ∨ l.length ≤ k + i then l.getD (l.length - 1 - k) [] else l.getD k []
theorem revTo_length (l : List (List UInt8)) (i : Nat) : (revTo l i).length = l.length := by simp [revTo]
theorem revTo_get (l : List (List UInt8)) (i : Nat) {k : Nat} (hk : k < l.length) : (revTo l i).getD k [] = if k < i ∨ l.length ≤ k + i then l.getD (l.length - 1 - k) [] else l.getD k [] := by
  simp [revTo, List.getElem?_range hk]
theorem revTo_zero (l : List (List UInt8)) : revTo l 0 = l := by
  apply List.ext_getElem?
  intro k
  rcases Nat.lt_or_ge k l.length with hk | hk
  · simp [revTo, List.getElem?_range hk, hk, show ¬ l.length ≤ k by omega]
  · rw [List.getElem?_eq_none (by rw [revTo_length]; exact hk), List.getElem?_eq_none hk]
theorem revTo_all (l : List (List UInt8)) {i : Nat} (h : l.length ≤ 2 * i + 1) : revTo l i = l.reverse := by
  apply List.ext_getElem?
  intro k
  rcases Nat.lt_or_ge k l.length with hk | hk
  · rw [List.getElem?_reverse hk]
    simp only [revTo, List.getElem?_map, List.getElem?_range hk, Option.map_some]
    have h2 : l.length - 1 - k < l.length := by omega
    split
    · simp [h2]
    · have : l.length - 1 - k = k := by omega
      simp [this, hk]
  · rw [List.getElem?_eq_none (by rw [revTo_length]; exact hk), List.getElem?_eq_none (by simpa using hk)]
theorem revTo_swap (l : List (List UInt8)) {i : Nat} (h : 2 * i + 1 < l.length) : ((revTo l i).set i ((revTo l i).getD (l.length - 1 - i) [])).set (l.length - 1 - i) ((revTo l i).getD i []) = revTo l (i + 1) := by
  rw [revTo_get l i (by omega), revTo_get l i (by omega)]
  rw [if_neg (by omega), if_neg (by omega)]
  apply List.ext_getElem?
  intro k
  rcases Nat.lt_or_ge k l.length with hk | hk
  · have hr : ∀ i, (revTo l i)[k]? = some (if k < i ∨ l.length ≤ k + i then l.getD (l.length - 1 - k) [] else l.getD k []) := fun i => by simp [revTo, List.getElem?_range hk]
    rw [hr (i + 1)]
    by_cases h1 : k = l.length - 1 - i
    · subst h1
      rw [List.getElem?_set_self (by rw [List.length_set, revTo_length]; omega), if_pos (by omega)]
      congr 2
      omega
    · rw [List.getElem?_set_ne (Ne.symm h1)]
      by_cases h2 : k = i
      · subst h2
        rw [List.getElem?_set_self (by rw [revTo_length]; omega), if_pos (by omega)]
      · rw [List.getElem?_set_ne (Ne.symm h2), hr i]
        have : (k < i ∨ l.length ≤ k + i) ↔ (k < i + 1 ∨ l.length ≤ k + (i + 1)) := by omega
        simp only [this]
  · rw [List.getElem?_eq_none (by simp [revTo_length]; exact hk), List.getElem?_eq_none (by rw [revTo_length]; exact hk)]
theorem revTo_ids {l : List (List UInt8)} (h : Ids l) (i : Nat) : Ids (revTo l i) := fun x hx => by
  simp only [revTo, List.mem_map, List.mem_range] at hx
  obtain ⟨k, hk, rfl⟩ := hx
  split
  · exact h.get (by omega)
  · exact h.get hk
section
variable {P : Program} {E : Env} {n : Nat} {K : Slots} {L : Res} {o : Oper}
theorem Pu_lenK {t e : TypeId} {x : Operand} {A : Option Addr} {m c : Nat} (ho : o.op = .call { callee := .builtin .len, args := #[x], argTypes := #[t] }) (hu : ∀ w, (underlying t).run P w = .ok (.slice e) w) (hx : evK K x = some (.slice A m c)) : Pure P E n o K L (.int .i64 (m : Int)) := fun a w hA hS => by
  simp [execOp, ho, resolve, invoke, builtin, hA.eval hx, Builtin.len_, hu, goInt]
end
end Go.Proofs.Ytamhhkjddmjanaa
