/- Names: those made of numbers are names; paths there and back; in plain words. -/
import Derived.Test.YtjiafaiklmbbeaaDoorNamesE
namespace Go.Proofs.YtjiafaiklmbbeaaDoor
open Go.RowKit Go.Lib
set_option linter.unusedVariables false
set_option linter.unusedSimpArgs false
theorem dec_ascii (c : UInt8) (rest : List UInt8) (h : c.toNat < 128) : decodeL (c :: rest) = (c.toNat, 1) := by
  rw [decodeL_N]
  simp [decodeN, h]
theorem chk_step {p rest : List UInt8} {r : Nat} (hp : p ≠ []) (h : decodeL (p ++ rest) = (r, p.length)) (hr : r ≠ 65533) (n : Nat) (bad : Bool) : chk (p ++ rest) n bad = chk rest (n + 1) (bad || wrongR r) := by
  have hno : noRune (p ++ rest) = false := by unfold noRune; rw [h]; simp [hr]
  rw [chk_some (by simp [hp]) hno, h]
  simp
theorem chk_piece : ∀ p ∈ some13, ∀ (rest : List UInt8) (n : Nat) (bad : Bool), chk (p ++ rest) n bad = chk rest (n + 1) bad := by
  intro p hp rest n bad
  simp only [some13, List.mem_cons, List.mem_nil_iff, or_false] at hp
  have h1 : ∀ c : UInt8, c.toNat < 128 → wrongR c.toNat = false → chk ([c] ++ rest) n bad = chk rest (n + 1) bad := fun c hc hw => by
    rw [chk_step (by simp) (dec_ascii c rest hc) (by omega), hw, Bool.or_false]
  rcases hp with rfl | rfl | rfl | rfl | rfl | rfl | rfl | rfl | rfl | rfl | rfl | rfl | rfl
  · exact h1 97 (by decide) (by decide)
  · exact h1 98 (by decide) (by decide)
  · exact h1 122 (by decide) (by decide)
  · exact h1 65 (by decide) (by decide)
  · exact h1 48 (by decide) (by decide)
  · exact h1 46 (by decide) (by decide)
  · exact h1 45 (by decide) (by decide)
  · exact h1 32 (by decide) (by decide)
  · exact h1 126 (by decide) (by decide)
  · rw [chk_step (r := 233) (by simp) (by rw [decodeL_N]; simp [decodeN]) (by omega), show wrongR 233 = false by decide, Bool.or_false]
  · rw [chk_step (r := 8364) (by simp) (by rw [decodeL_N]; simp [decodeN]) (by omega), show wrongR 8364 = false by decide, Bool.or_false]
  · rw [chk_step (r := 128512) (by simp) (by rw [decodeL_N]; simp [decodeN]) (by omega), show wrongR 128512 = false by decide, Bool.or_false]
  · rw [chk_step (r := 128) (by simp) (by rw [decodeL_N]; simp [decodeN]) (by omega), show wrongR 128 = false by decide, Bool.or_false]
theorem chk_pieces {ps : List (List UInt8)} (h : ∀ p ∈ ps, p ∈ some13) (rest : List UInt8) (bad : Bool) : ∀ n, chk (ps.flatten ++ rest) n bad = chk rest (n + ps.length) bad := by
  induction ps with
  | nil => intro n; simp
  | cons p ps ih =>
    intro n
    rw [List.flatten_cons, List.append_assoc, chk_piece p (h p (by simp)), ih fun q hq => h q (by simp [hq])]
    congr 1
    simp; omega
theorem chk_x (n : Nat) (bad : Bool) : chk [120] n bad = finC (n + 1) bad := by
  have := chk_step (p := [120]) (rest := []) (by simp) (dec_ascii 120 [] (by decide)) (by decide) n bad
  rw [List.append_nil] at this
  rw [this, chk_nil, show wrongR (120 : UInt8).toNat = false by decide, Bool.or_false]
theorem bad0_fix (o : List UInt8) : bad0 (fixN o) = false := by
  unfold fixN
  split
  · rename_i h
    simp only [bad0, Bool.or_eq_true, beq_iff_eq] at h
    rcases h with (rfl | rfl) | rfl <;> decide
  · rename_i h; simpa using h
theorem bad0_len {o : List UInt8} (h : bad0 o = true) : o.length ≤ 2 := by
  simp only [bad0, Bool.or_eq_true, beq_iff_eq] at h
  rcases h with (rfl | rfl) | rfl <;> simp
theorem check_name (zs : List Int) : checkN (nameN zs) = 0 := by
  have hm := map_pieces (zs.take 12)
  have hl : ((zs.take 12).map pieceN).length ≤ 12 := by simp; omega
  unfold checkN
  rw [show bad0 (nameN zs) = false from bad0_fix _]
  unfold nameN fixN
  split
  · rename_i h
    have := (pieces_len hm).1
    have := bad0_len h
    rw [chk_pieces hm, chk_x]
    unfold finC
    rw [if_neg (by decide), if_neg (by omega)]
  · have := chk_pieces hm [] false 0
    rw [List.append_nil] at this
    rw [this, chk_nil]
    unfold finC
    rw [if_neg (by decide), if_neg (by omega)]
theorem piece_stroke : ∀ p ∈ some13, (47 : UInt8) ∉ p := by decide
theorem name_stroke (zs : List Int) : (47 : UInt8) ∉ nameN zs := by
  have h : (47 : UInt8) ∉ ((zs.take 12).map pieceN).flatten := by
    intro hc
    obtain ⟨p, hp, hc⟩ := List.mem_flatten.1 hc
    exact piece_stroke p (map_pieces _ p hp) hc
  unfold nameN fixN
  split
  · intro hc
    rcases List.mem_append.1 hc with hc | hc
    · exact h hc
    · simp at hc
  · exact h
theorem name_ne (zs : List Int) : nameN zs ≠ [] := by
  intro h
  have := bad0_fix (((zs.take 12).map pieceN).flatten)
  rw [show fixN _ = nameN zs from rfl, h] at this
  cases this
/-! paths there and back -/
theorem splitL_none {x : List UInt8} (h : (47 : UInt8) ∉ x) : splitL x = [x] := by
  induction x with
  | nil => rfl
  | cons c x ih =>
    rw [splitL, if_neg (fun hc => h (by simp [hc])), ih (fun hc => h (by simp [hc]))]
theorem splitL_app {x : List UInt8} (h : (47 : UInt8) ∉ x) (t : List UInt8) : splitL (x ++ 47 :: t) = x :: splitL t := by
  induction x with
  | nil => simp [splitL]
  | cons c x ih =>
    rw [List.cons_append, splitL, if_neg (fun hc => h (by simp [hc])), ih (fun hc => h (by simp [hc]))]
theorem splitL_join {ls : List (List UInt8)} (hne : ls ≠ []) (h : ∀ x ∈ ls, (47 : UInt8) ∉ x) : splitL (joinL ls) = ls := by
  induction ls with
  | nil => exact absurd rfl hne
  | cons x r ih =>
    cases r with
    | nil => exact splitL_none (h x (by simp))
    | cons y r =>
      rw [joinL, splitL_app (h x (by simp)), ih (by simp) fun z hz => h z (List.mem_cons_of_mem _ hz)]
theorem joinL_split (l : List UInt8) : joinL (splitL l) = l := by
  induction l with
  | nil => rfl
  | cons c l ih =>
    have hne := splitL_ne l
    unfold splitL
    split
    · rename_i h
      subst h
      cases hs : splitL l with
      | nil => exact absurd hs hne
      | cons p ps => rw [joinL, ← hs, ih]; rfl
    · split
      · rename_i p ps hs
        rw [hs] at ih
        cases ps with
        | nil => simp only [joinL] at ih ⊢; rw [ih]
        | cons q ps => simp only [joinL] at ih ⊢; rw [← ih]; rfl
      · rename_i hs; exact absurd hs hne
/-- What is split without fault is joined to the same. -/
theorem join_split {l : List UInt8} (h : (splitN l).2 = 0) : joinN (splitN l).1 = (l, 0) := by
  unfold splitN at h ⊢
  split at h
  · rename_i h1; subst h1; rw [if_pos rfl]; rfl
  · rename_i h1
    rw [if_neg h1]
    split at h
    · simp at h
    · rename_i h2
      rw [if_neg h2]
      split at h
      · rename_i h3; exact absurd h h3
      · rename_i h3
        rw [if_neg h3]
        unfold joinN
        rw [if_neg h3, joinL_split]
        have hp : l = 47 :: l.drop 1 := by
          simp only [noPath, Bool.or_eq_true, Bool.not_eq_true', not_or, Bool.not_eq_false, Bool.not_eq_true] at h2
          cases l with
          | nil => simp [List.isPrefixOf] at h2
          | cons c l => simp [List.isPrefixOf] at h2; simp [h2.1]
        rw [← hp]
theorem allN_zero {ls : List (List UInt8)} (h : allN ls = 0) : ls.length ≤ 5 ∧ ∀ x ∈ ls, checkN x = 0 := by
  unfold allN at h
  split at h
  · omega
  · refine ⟨by omega, ?_⟩
    have key : ∀ ls : List (List UInt8), firstBad ls = 0 → ∀ x ∈ ls, checkN x = 0 := by
      intro ls
      induction ls with
      | nil => intro _ x hx; cases hx
      | cons y r ih =>
        intro hf x hx
        rw [firstBad] at hf
        by_cases hy : checkN y ≠ 0
        · rw [if_pos hy] at hf; exact absurd hf hy
        · rw [if_neg hy] at hf
          rcases List.mem_cons.1 hx with rfl | hx
          · omega
          · exact ih hf x hx
    exact key ls h
theorem allN_good {ls : List (List UInt8)} (h5 : ls.length ≤ 5) (h : ∀ x ∈ ls, checkN x = 0) : allN ls = 0 := by
  unfold allN
  rw [if_neg (by omega)]
  clear h5
  induction ls with
  | nil => rfl
  | cons y r ih => rw [firstBad, if_neg (by rw [h y (by simp)]; simp), ih fun x hx => h x (by simp [hx])]
theorem allN_many {ls : List (List UInt8)} (h5 : 5 < ls.length) : allN ls = 4 := by unfold allN; rw [if_pos h5]
/-- Good names, without strokes: their path is split into them. -/
theorem noPath_join {ls : List (List UInt8)} (hne : ls ≠ []) (h : ∀ x ∈ ls, (47 : UInt8) ∉ x ∧ x ≠ []) : noPath (47 :: joinL ls) = false ∧ joinL ls ≠ [] := by
  have key : ∀ ls : List (List UInt8), ls ≠ [] → (∀ x ∈ ls, (47 : UInt8) ∉ x ∧ x ≠ []) → ∃ t c, joinL ls = t ++ [c] ∧ c ≠ 47 := by
    intro ls
    induction ls with
    | nil => intro h; exact absurd rfl h
    | cons x r ih =>
      intro _ h
      cases r with
      | nil =>
        obtain ⟨h1, h2⟩ := h x (by simp)
        refine ⟨x.dropLast, x.getLast h2, (List.dropLast_concat_getLast h2).symm, fun hc => h1 (hc ▸ List.getLast_mem h2)⟩
      | cons y r =>
        obtain ⟨t, c, ht, hc⟩ := ih (by simp) fun z hz => h z (List.mem_cons_of_mem _ hz)
        exact ⟨x ++ 47 :: t, c, by rw [joinL, ht]; simp, hc⟩
  obtain ⟨t, c, ht, hc⟩ := key ls hne h
  constructor
  · rw [ht]
    unfold noPath
    simp [List.isPrefixOf, List.isSuffixOf]
    exact fun h => hc h.symm
  · rw [ht]; simp
theorem split_join {ls : List (List UInt8)} (hne : ls ≠ []) (h : ∀ x ∈ ls, (47 : UInt8) ∉ x ∧ x ≠ []) : splitN (47 :: joinL ls) = if allN ls ≠ 0 then ([], allN ls) else (ls, 0) := by
  obtain ⟨h1, h2⟩ := noPath_join hne h
  unfold splitN
  rw [if_neg (by simp [h2]), if_neg (by simp [h1]), List.drop_succ_cons, List.drop_zero, splitL_join hne fun x hx => (h x hx).1]
end Go.Proofs.YtjiafaiklmbbeaaDoor
