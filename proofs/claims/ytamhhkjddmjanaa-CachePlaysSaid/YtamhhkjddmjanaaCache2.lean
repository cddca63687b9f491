/- Caches: plain words of the laws. -/
import Derived.Test.YtamhhkjddmjanaaCache1
namespace Go.Proofs.Ytamhhkjddmjanaa
set_option linter.unusedVariables false
set_option linter.unusedSimpArgs false
/-- One of few keys. -/
def keyB (n : Int) : List UInt8 := zeroId.set 5 (byte (n % 12))
theorem keyB_length (n : Int) : (keyB n).length = 32 := by simp [keyB, zeroId_length]
theorem key_set (x : UInt8) : (bs zeroId).set 5 (bv x) = bs (zeroId.set 5 x) := by simp [bs, List.map_set]
theorem keyB_at (n : Int) : at0 (keyB n) 5 = byte (n % 12) := by
  have : 5 < zeroId.length := by rw [zeroId_length]; decide
  simp [at0, keyB, this]
theorem keyB_inj {a b : Int} (h : keyB a = keyB b) : a % 12 = b % 12 := by
  have h1 := congrArg (fun l => at0 l 5) h
  simp only [keyB_at] at h1
  have ha := byte_toNat (a % 12)
  have hb := byte_toNat (b % 12)
  rw [h1] at ha
  omega
theorem keyB_ne {a b : Int} (ha : 0 ≤ a) (ha2 : a < 12) (hb : 0 ≤ b) (hb2 : b < 12) (h : a ≠ b) : keyB a ≠ keyB b := fun e => by
  have := keyB_inj e
  omega
/-- No one has to go. -/
theorem putC_fits {room : Nat} {l : Ents} {k d : List UInt8} (h1 : 1 ≤ d.length) (h2 : d.length + total (dropK k l) ≤ room) : putC room l k d = dropK k l ++ [(k, d)] ∧ putB room d = true := by
  obtain ⟨a1, a2, _⟩ := putC_good (room := room) (l := l) (k := k) (d := d) (by simp; exact ⟨by intro h; rw [h] at h1; simp at h1, by omega⟩)
  exact ⟨by rw [a1, evict_done h2], a2⟩
/-- What CacheAgain has put, the first being a. -/
def againL (a : List UInt8) (n : Nat) : Ents := (keyB 11, a) :: (List.range n).map fun i : Nat => (keyB (i : Int), [byte (i : Int)])
theorem total_ones (n : Nat) : total ((List.range n).map fun i : Nat => (keyB (i : Int), [byte (i : Int)])) = n := by
  induction n with
  | zero => rfl
  | succ n ih => rw [List.range_succ, List.map_append, total_append, ih]; simp [total]
theorem againL_total (a : List UInt8) (n : Nat) : total (againL a n) = a.length + n := by rw [againL, total_cons, total_ones]
theorem againL_not {a : List UInt8} {n : Nat} (hn : n ≤ 4) : keyB (n : Int) ∉ keys (againL a n) := by
  intro h
  simp only [keys, againL, List.map_cons, List.map_map, List.mem_cons, List.mem_map, List.mem_range, Function.comp_def] at h
  rcases h with h | ⟨i, hi, h⟩
  · have := keyB_inj h; omega
  · have := keyB_inj h; omega
theorem again_step {a : List UInt8} {n : Nat} (hn : n ≤ 4) (ha : a.length ≤ 200) : putC 400 (againL a n) (keyB (n : Int)) [byte (n : Int)] = againL a (n + 1) := by
  have hd := dropK_none (againL_not (a := a) hn)
  have h := (putC_fits (room := 400) (l := againL a n) (k := keyB (n : Int)) (d := [byte (n : Int)]) (by simp) (by rw [hd, againL_total]; simp; omega)).1
  rw [h, hd, againL, againL, List.range_succ]
  simp
theorem again_first {a : List UInt8} (h1 : 1 ≤ a.length) (h2 : a.length ≤ 200) : putC 400 [] (keyB 11) a = againL a 0 := by
  have h := (putC_fits (room := 400) (l := []) (k := keyB 11) (d := a) h1 (by simp [dropK, total]; omega)).1
  rw [h]
  rfl
/-- .. and the second. -/
def againM (b : List UInt8) (n : Nat) : Ents := ((List.range n).map fun i : Nat => (keyB (i : Int), [byte (i : Int)])) ++ [(keyB 11, b)]
theorem ones_not {n : Nat} (hn : n ≤ 5) : keyB 11 ∉ keys ((List.range n).map fun i : Nat => (keyB (i : Int), [byte (i : Int)])) := by
  intro h
  simp only [keys, List.map_map, List.mem_map, List.mem_range, Function.comp_def] at h
  obtain ⟨i, hi, h⟩ := h
  have := keyB_inj h
  omega
theorem again_last {a b : List UInt8} {n : Nat} (hn : n ≤ 5) (h1 : 1 ≤ b.length) (h2 : b.length ≤ 200) : putC 400 (againL a n) (keyB 11) b = againM b n ∧ putB 400 b = true := by
  have hd : dropK (keyB 11) (againL a n) = (List.range n).map fun i : Nat => (keyB (i : Int), [byte (i : Int)]) := by
    unfold againL
    exact dropK_head (keyB 11, a) _
  have h := putC_fits (room := 400) (l := againL a n) (k := keyB 11) (d := b) h1 (by rw [hd, total_ones]; omega)
  rw [hd] at h
  exact h
theorem again_lookup {b : List UInt8} {n : Nat} (hn : n ≤ 5) : (againM b n).lookup (keyB 11) = some b := lookup_app_same (lookup_none (ones_not hn))
theorem again_get {b : List UInt8} {n : Nat} (hn : n ≤ 5) : getC (againM b n) (keyB 11) = againM b n := by
  rw [getC, again_lookup hn]
  have : dropK (keyB 11) (againM b n) = (List.range n).map fun i : Nat => (keyB (i : Int), [byte (i : Int)]) := by
    unfold againM dropK
    rw [List.eraseP_append_right]
    · simp
    · intro p hp hk
      have := ones_not hn
      exact this (List.mem_map.2 ⟨p, hp, (by simpa using hk : keyB 11 = p.1).symm⟩)
  show dropK (keyB 11) (againM b n) ++ [(keyB 11, b)] = _
  rw [this]
  rfl
theorem againM_total (b : List UInt8) (n : Nat) : total (againM b n) = b.length + n := by
  rw [againM, total_append, total_ones]
  simp [total]
  omega
theorem againM_keys (b : List UInt8) (n : Nat) : (keys (againM b n)).reverse.length = n + 1 ∧ (keys (againM b n)).reverse.getD 0 [] = keyB 11 := by
  refine ⟨by simp [keys, againM], ?_⟩
  simp [keys, againM]
theorem againM_ids (b : List UInt8) (n : Nat) : Ids (keys (againM b n)).reverse := fun x hx => by
  simp only [List.mem_reverse, keys, againM, List.map_append, List.map_map, List.mem_append, List.mem_map, List.mem_range, Function.comp_def, List.map_cons, List.map_nil, List.mem_singleton] at hx
  rcases hx with ⟨i, _, rfl⟩ | rfl
  · exact keyB_length _
  · exact keyB_length _
/-- Calls of a law. -/
def callsC (l : List (Bool × Int × Int)) : List Value := (l.map fun c => [Value.bool c.1, .int .i64 c.2.1, .int .i64 c.2.2]).flatten
def callAt (l : List (Bool × Int × Int)) (i : Nat) : Bool × Int × Int := l.getD i (false, 0, 0)
theorem callsC_drop : ∀ (l : List (Bool × Int × Int)) (i : Nat), (callsC l).drop (i * 3) = callsC (l.drop i)
  | [], i => by simp [callsC]
  | c :: l, 0 => by simp
  | c :: l, i + 1 => by
    rw [show (i + 1) * 3 = 3 + i * 3 by omega, ← List.drop_drop]
    exact callsC_drop l i
theorem calls_at {l : List (Bool × Int × Int)} {i : Nat} (h : i < l.length) : (callsC l)[i * 3]? = some (.bool (callAt l i).1) ∧ (callsC l)[i * 3 + 1]? = some (.int .i64 (callAt l i).2.1) ∧ (callsC l)[i * 3 + 2]? = some (.int .i64 (callAt l i).2.2) := by
  have e : callsC (l.drop i) = [Value.bool (callAt l i).1, .int .i64 (callAt l i).2.1, .int .i64 (callAt l i).2.2] ++ callsC (l.drop (i + 1)) := by
    have hc : callAt l i = l[i] := by simp [callAt, h]
    rw [List.drop_eq_getElem_cons h, hc]
    rfl
  have g : ∀ j, (callsC l)[i * 3 + j]? = (callsC (l.drop i))[j]? := fun j => by rw [← callsC_drop, List.getElem?_drop]
  refine ⟨?_, ?_, ?_⟩
  · rw [show i * 3 = i * 3 + 0 from rfl, g, e]; rfl
  · rw [g, e]; rfl
  · rw [g, e]; rfl
theorem putB_zeros {room n : Nat} : (!(putB room (List.replicate n 0) == (decide ((0 : Int) < (n : Int)) && decide ((n : Int) ≤ (room : Int))))) = false := by
  unfold putB
  rw [List.length_replicate]
  by_cases h1 : n = 0
  · subst h1; simp
  · by_cases h2 : n ≤ room
    · simp [h1, show ¬ room < n by omega, h2]; omega
    · simp [h2, show room < n by omega]
theorem putC_last {room : Nat} {l : Ents} {k d : List UInt8} (h : putB room d = true) : (keys (putC room l k d)).reverse.getD 0 [] = k ∧ 0 < (keys (putC room l k d)).length := by
  obtain ⟨h1, _⟩ := putC_good (room := room) (l := l) (k := k) (d := d) (by unfold putB at h; simpa using h)
  rw [h1, keys_append]
  refine ⟨by simp [keys], by simp [keys]⟩
theorem known_total : total (putC 4 (putC 4 [] zeroId (List.replicate 5 0)) zeroId (List.replicate 4 0)) = 4 := by decide
end Go.Proofs.Ytamhhkjddmjanaa
