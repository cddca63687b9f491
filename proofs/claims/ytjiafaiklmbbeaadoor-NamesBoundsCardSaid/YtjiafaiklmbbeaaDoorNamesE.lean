/- latticelaw3: its small functions. -/
import Derived.Test.YtjiafaiklmbbeaaDoorNamesD
import Derived.Test.YtjiafaiklmbbeaaDoorTiN
namespace Go.Proofs.YtjiafaiklmbbeaaDoor
open Go.RowKit Go.Lib
set_option linter.unusedVariables false
set_option linter.unusedSimpArgs false

/-- The pieces that names are made of. -/
def some13 : List (List UInt8) := [[97], [98], [122], [65], [48], [46], [45], [32], [126], [195, 169], [226, 130, 172], [240, 159, 152, 128], [194, 128]]
def pieceN (z : Int) : List UInt8 := some13.getD (z % 13).toNat []
def fixN (o : List UInt8) : List UInt8 := if bad0 o then o ++ [120] else o
/-- A name made of numbers. -/
def nameN (zs : List Int) : List UInt8 := fixN (((zs.take 12).map pieceN).flatten)
theorem z13 (z : Int) : (z % 13).toNat < some13.length := by show (z % 13).toNat < 13; omega
theorem pieceN_mem (z : Int) : pieceN z ∈ some13 := getD_mem (z13 z)
theorem piece_len : ∀ p ∈ some13, 1 ≤ p.length ∧ p.length ≤ 4 := by decide
theorem pieces_len {ps : List (List UInt8)} (h : ∀ p ∈ ps, p ∈ some13) : ps.length ≤ ps.flatten.length ∧ ps.flatten.length ≤ 4 * ps.length := by
  induction ps with
  | nil => simp
  | cons p ps ih =>
    have h1 := piece_len p (h p (by simp))
    have h2 := ih fun q hq => h q (by simp [hq])
    simp only [List.length_cons, List.flatten_cons, List.length_append]
    omega
theorem map_pieces (zs : List Int) : ∀ p ∈ zs.map pieceN, p ∈ some13 := by
  intro p hp
  obtain ⟨z, _, rfl⟩ := List.mem_map.1 hp
  exact pieceN_mem z
def nameA (zs : List Int) (k : Nat) : List UInt8 := ((zs.take k).map pieceN).flatten
theorem nameA_succ {zs : List Int} {k : Nat} (h : k < zs.length) : nameA zs (k + 1) = nameA zs k ++ pieceN (zs.getD k 0) := by
  unfold nameA
  rw [List.take_add_one, List.map_append, List.flatten_append]
  simp [List.getElem?_eq_getElem h]
theorem nameA_len (zs : List Int) (k : Nat) (hk : k ≤ 12) : (nameA zs k).length ≤ 48 := by
  have h := (pieces_len (map_pieces (zs.take k))).2
  have h2 : ((zs.take k).map pieceN).length ≤ k := by simp; omega
  unfold nameA
  omega
theorem nameA_end {zs : List Int} {k : Nat} (h : k = 12 ∨ (zs.length ≤ k ∧ k ≤ 12)) : fixN (nameA zs k) = nameN zs := by
  unfold nameN nameA
  rcases h with rfl | ⟨h1, h2⟩
  · rfl
  · rw [List.take_of_length_le h1, List.take_of_length_le (by omega)]
theorem nameN_len (zs : List Int) : (nameN zs).length ≤ 49 := by
  have := nameA_len zs 12 (Nat.le_refl _)
  unfold nameN fixN
  unfold nameA at this
  split <;> simp <;> simp at this <;> omega
theorem within_spec (a n : Int) (hn : 0 < n) (hn2 : n < 9223372036854775808) (F : HP) : CallsS Tryd.prog 10 #[.int .i64 a, .int .i64 n] F [] (fun v Ps => v = .int .i64 (a % n) ∧ Ps = []) := by
  have htb := tmod_bounds a hn
  refine callsS_enter Tryd.func10 rfl Tryd.ntmps10 (by simp) (fun E => ?_)
  refine W_seq ?_
  refine W.pre (K' := [(0, _), (1, _)]) (L' := [(0, _)]) ?_ ⟨rfl, ⟨rfl, trivial⟩⟩ ⟨rfl, trivial⟩
  refine W_regL (WL_pure rfl rfl (by decide) (Pu_assign rfl rfl) (WL_nil (X_then ?_)))
  refine W_seq ?_
  refine W.pre (K' := [(0, _), (1, _), (4, _)]) (L' := [(0, _)]) ?_ ⟨rfl, ⟨rfl, ⟨rfl, trivial⟩⟩⟩ ⟨rfl, trivial⟩
  refine W_regL (WL_pure rfl rfl (by decide) (Pu_move rfl rfl) (WL_pure rfl rfl (by decide) (Pu_move rfl rfl) (WL_pure rfl rfl (by decide) (Pu_bin rfl rfl rfl (run_tmod _ _ _ _ _ (by omega))) (WL_pure rfl rfl (by decide) (Pu_assign rfl rfl) (WL_nil (X_then ?_))))))
  refine W_seq ?_
  refine W_seq ?_
  refine W.pre (K' := [(0, _), (1, _), (4, _), (5, _)]) (L' := [(0, _)]) ?_ ⟨rfl, ⟨rfl, ⟨rfl, ⟨rfl, trivial⟩⟩⟩⟩ ⟨rfl, trivial⟩
  refine W_regL (WL_pure rfl rfl (by decide) (Pu_move rfl rfl) (WL_pure rfl rfl (by decide) (Pu_bin rfl rfl rfl (run_lss _ _ _ _ _ _)) (WL_nil (X_then ?_))))
  refine W_cond rfl (fun hc10 => ?_) (fun hc10 => ?_)
  ·
    have hlt := of_decide_eq_true hc10
    refine W.pre (K' := [(0, _), (1, _), (4, _), (5, _), (10, _)]) (L' := [(0, _)]) ?_ ⟨rfl, ⟨rfl, ⟨rfl, ⟨rfl, ⟨rfl, trivial⟩⟩⟩⟩⟩ ⟨rfl, trivial⟩
    refine W_regL (WL_pure rfl rfl (by decide) (Pu_move rfl rfl) (WL_pure rfl rfl (by decide) (Pu_move rfl rfl) (WL_pure rfl rfl (by decide) (Pu_bin rfl rfl rfl (run_add _ _ _ _ _ (by omega))) (WL_pure rfl rfl (by decide) (Pu_assign rfl rfl) (WL_nil (X_then ?_))))))
    refine W_seq ?_
    refine W.pre (K' := [(0, _), (1, _), (4, _), (5, _), (10, _)]) (L' := [(0, _)]) ?_ ⟨rfl, ⟨rfl, ⟨rfl, ⟨rfl, ⟨rfl, trivial⟩⟩⟩⟩⟩ ⟨rfl, trivial⟩
    refine W_regL (WL_pure rfl rfl (by decide) (Pu_move rfl rfl) (WL_pure rfl rfl (by decide) (Pu_assign rfl rfl) (WL_nil (X_then ?_))))
    refine W_ret ?_
    exact X_ret [] (Ps := []) (res1 Tryd.results10 rfl) rfl (by decide) ⟨int_val (emod_neg hn (of_decide_eq_true hc10)), rfl⟩
  ·
    refine W_skip (X_then ?_)
    refine W_seq ?_
    refine W.pre (K' := [(0, _), (1, _), (4, _), (5, _), (10, _)]) (L' := [(0, _)]) ?_ ⟨rfl, ⟨rfl, ⟨rfl, ⟨rfl, ⟨rfl, trivial⟩⟩⟩⟩⟩ ⟨rfl, trivial⟩
    refine W_regL (WL_pure rfl rfl (by decide) (Pu_move rfl rfl) (WL_pure rfl rfl (by decide) (Pu_assign rfl rfl) (WL_nil (X_then ?_))))
    refine W_ret ?_
    exact X_ret [] (Ps := []) (res1 Tryd.results10 rfl) rfl (by decide) ⟨int_val (emod_pos hn (of_decide_eq_false hc10)), rfl⟩
theorem take_same {a b : List (List UInt8)} {x : Nat} (h : a.take x = b.take x) (h1 : x < a.length) (h2 : x < b.length) (he : a.getD x [] = b.getD x []) : a.take (x + 1) = b.take (x + 1) := by
  rw [List.take_add_one, List.take_add_one, h, getD_at h1 (d := []), getD_at h2 (d := []), he]
theorem take_all_same {a b : List (List UInt8)} {x : Nat} (h : a.take x = b.take x) (h1 : a.length ≤ x) (he : a.length = b.length) : a = b := by
  rwa [List.take_of_length_le h1, List.take_of_length_le (by omega)] at h
theorem same_spec (va vb : Value) (a b : List (List UInt8)) (hal : a.length ≤ 140737488355328) (F : HP) (hA : ∀ h, F h → rdS va a h) (hB : ∀ h, F h → rdS vb b h) : CallsS Tryd.prog 16 #[va, vb] F [] (fun r Ps => r = .bool (a == b) ∧ Ps = []) := by
  refine callsS_enter Tryd.func16 rfl Tryd.ntmps16 (by simp) (fun E => ?_)
  refine W_seq ?_
  refine W.pre (K' := [(0, _), (1, _)]) (L' := [(0, _)]) ?_ ⟨rfl, ⟨rfl, trivial⟩⟩ ⟨rfl, trivial⟩
  refine W_regL (WL_pure rfl rfl (by decide) (Pu_assign rfl rfl) (WL_nil (X_then ?_)))
  refine W_seq ?_
  refine W_seq ?_
  refine W.pre (K' := [(0, _), (1, _), (4, _)]) (L' := [(0, _)]) ?_ ⟨rfl, ⟨rfl, ⟨rfl, trivial⟩⟩⟩ ⟨rfl, trivial⟩
  refine W_regL (WL_pure rfl rfl (by decide) (Pu_move rfl rfl) (WL_pure rfl rfl (by decide) (Pu_len (r := 0) rfl Tryd.runUnderlying30 rfl rfl hA) (WL_pure rfl rfl (by decide) (Pu_move rfl rfl) (WL_pure rfl rfl (by decide) (Pu_len (r := 0) rfl Tryd.runUnderlying30 rfl rfl hB) (WL_pure rfl rfl (by decide) (Pu_bin rfl rfl rfl (run_neq _ _ _ _ _ _)) (WL_nil (X_then ?_)))))))
  refine W_cond rfl (fun hc10 => ?_) (fun hc10 => ?_)
  ·
    have hne : ¬ a.length = b.length := by simp at hc10; omega
    refine W_seq ?_
    refine W.pre (K' := [(0, _), (1, _), (4, _), (10, _)]) (L' := [(0, _)]) ?_ ⟨rfl, ⟨rfl, ⟨rfl, ⟨rfl, trivial⟩⟩⟩⟩ ⟨rfl, trivial⟩
    refine W_regL (WL_pure rfl rfl (by decide) (Pu_assign rfl rfl) (WL_nil (X_then ?_)))
    refine W_ret (X_then_ret ?_)
    exact X_ret [] (Ps := []) (res1 Tryd.results16 rfl) rfl (by decide) ⟨bool_val (beq_eq_false_iff_ne.2 (fun h => hne (by rw [h]))).symm, rfl⟩
  ·
    have heq : a.length = b.length := by simp at hc10; omega
    refine W_skip (X_then ?_)
    refine W_seq ?_
    refine W_seq ?_
    refine W.pre (K' := [(0, _), (1, _), (4, _), (10, _)]) (L' := [(0, _)]) ?_ ⟨rfl, ⟨rfl, ⟨rfl, ⟨rfl, trivial⟩⟩⟩⟩ ⟨rfl, trivial⟩
    refine W_regL (WL_pure rfl rfl (by decide) (Pu_assign rfl rfl) (WL_nil (X_then ?_)))
    refine W_block ?_
    refine W_loop (α := Nat) (fun i => [(0, va), (1, vb), (5, .int .i64 (i : Int))]) (fun i => [(0, F)]) (fun i => i ≤ a.length ∧ a.take i = b.take i) (fun i => a.length - i) (0) ⟨Nat.zero_le _, rfl⟩ ⟨rfl, ⟨rfl, ⟨rfl, trivial⟩⟩⟩ ⟨rfl, trivial⟩ (fun x hx => ?_)
    obtain ⟨hxl, htk⟩ := hx
    refine W_seq ?_
    refine W_seq ?_
    refine W.pre (K' := [(0, _), (1, _), (5, _)]) (L' := [(0, _)]) ?_ ⟨rfl, ⟨rfl, ⟨rfl, trivial⟩⟩⟩ ⟨rfl, trivial⟩
    refine W_regL (WL_pure rfl rfl (by decide) (Pu_move rfl rfl) (WL_pure rfl rfl (by decide) (Pu_move rfl rfl) (WL_pure rfl rfl (by decide) (Pu_len (r := 0) rfl Tryd.runUnderlying30 rfl rfl hA) (WL_pure rfl rfl (by decide) (Pu_bin rfl rfl rfl (run_lss _ _ _ _ _ _)) (WL_nil (X_then ?_))))))
    refine W_cond rfl (fun hc14 => ?_) (fun hc14 => ?_)
    ·
      have hlt : x < a.length := by have := of_decide_eq_true hc14; omega
      refine W_skip (X_then ?_)
      refine W_seq ?_
      refine W_block ?_
      refine W_seq ?_
      refine W.pre (K' := [(0, _), (1, _), (5, _), (14, _)]) (L' := [(0, _)]) ?_ ⟨rfl, ⟨rfl, ⟨rfl, ⟨rfl, trivial⟩⟩⟩⟩ ⟨rfl, trivial⟩
      refine W_draw (N := 9) (by kernel_rfl) rfl [(0, _)] ⟨rfl, trivial⟩ ?_
      refine (AH_take 0 rfl (by kernel_rfl) (by kernel_rfl) (by kernel_rfl) rfl rfl (by decide) (Pu_move rfl rfl) (AH_take 1 rfl (by kernel_rfl) (by kernel_rfl) (by kernel_rfl) rfl rfl (by decide) (Pu_move rfl rfl) (AH_take 2 rfl (by kernel_rfl) (by kernel_rfl) (by kernel_rfl) rfl rfl (by decide) (Pu_idxS1 (r := 0) rfl Tryd.runUnderlying30 Tryd.sizeOf9 rfl rfl rfl hA (by omega)) (AH_take 3 rfl (by kernel_rfl) (by kernel_rfl) (by kernel_rfl) rfl rfl (by decide) (Pu_loadS (r := 0) rfl Tryd.isAgg9 rfl rfl hA (ss_at hlt)) (AH_take 4 rfl (by kernel_rfl) (by kernel_rfl) (by kernel_rfl) rfl rfl (by decide) (Pu_move rfl rfl) (AH_take 5 rfl (by kernel_rfl) (by kernel_rfl) (by kernel_rfl) rfl rfl (by decide) (Pu_move rfl rfl) (AH_take 6 rfl (by kernel_rfl) (by kernel_rfl) (by kernel_rfl) rfl rfl (by decide) (Pu_idxS1 (r := 0) rfl Tryd.runUnderlying30 Tryd.sizeOf9 rfl rfl rfl hB (by omega)) (AH_take 7 rfl (by kernel_rfl) (by kernel_rfl) (by kernel_rfl) rfl rfl (by decide) (Pu_loadS (r := 0) rfl Tryd.isAgg9 rfl rfl hB (ss_at (heq ▸ hlt))) (AH_take 8 rfl (by kernel_rfl) (by kernel_rfl) (by kernel_rfl) rfl rfl (by decide) (Pu_bin rfl rfl rfl (run_strNe _ _ _ _ _)) (AH_done (by kernel_rfl) (X_then ?_)))))))))))
      refine W_cond rfl (fun hc25 => ?_) (fun hc25 => ?_)
      ·
        have hee : ¬ a.getD x [] = b.getD x [] := by simpa using hc25
        refine W_seq ?_
        refine W.pre (K' := [(0, _), (1, _), (5, _), (14, _), (25, _)]) (L' := [(0, _)]) ?_ ⟨rfl, ⟨rfl, ⟨rfl, ⟨rfl, ⟨rfl, trivial⟩⟩⟩⟩⟩ ⟨rfl, trivial⟩
        refine W_regL (WL_pure rfl rfl (by decide) (Pu_assign rfl rfl) (WL_nil (X_then ?_)))
        refine W_ret (X_block_ret (X_then_ret (X_then_ret (X_block_ret (X_then_ret ?_)))))
        exact X_ret [] (Ps := []) (res1 Tryd.results16 rfl) rfl (by decide) ⟨bool_val (beq_eq_false_iff_ne.2 (fun h => hee (by rw [h]))).symm, rfl⟩
      ·
        have hee : a.getD x [] = b.getD x [] := by simpa using hc25
        refine W_skip (X_block (X_then ?_))
        refine W.pre (K' := [(0, _), (1, _), (5, _), (14, _), (25, _)]) (L' := [(0, _)]) ?_ ⟨rfl, ⟨rfl, ⟨rfl, ⟨rfl, ⟨rfl, trivial⟩⟩⟩⟩⟩ ⟨rfl, trivial⟩
        refine W_regL (WL_pure rfl rfl (by decide) (Pu_move rfl rfl) (WL_pure rfl rfl (by decide) (Pu_bin rfl rfl rfl (run_add _ _ _ _ _ (by omega))) (WL_pure rfl rfl (by decide) (Pu_assign rfl rfl) (WL_nil ?_))))
        exact X_round (x + 1) ⟨hlt, take_same htk hlt (heq ▸ hlt) hee⟩ (by omega) ⟨rfl, rfl, rfl, trivial⟩ ⟨rfl, trivial⟩
    ·
      have hge : a.length ≤ x := by have := of_decide_eq_false hc14; omega
      refine W_exit (X_then_exit (X_then_exit (X_block_exit (X_then ?_))))
      refine W_seq ?_
      refine W.pre (K' := [(0, _), (1, _), (5, _), (14, _)]) (L' := [(0, _)]) ?_ ⟨rfl, ⟨rfl, ⟨rfl, ⟨rfl, trivial⟩⟩⟩⟩ ⟨rfl, trivial⟩
      refine W_regL (WL_pure rfl rfl (by decide) (Pu_assign rfl rfl) (WL_nil (X_then ?_)))
      refine W_ret ?_
      exact X_ret [] (Ps := []) (res1 Tryd.results16 rfl) rfl (by decide) ⟨bool_val (beq_iff_eq.2 (take_all_same htk hge heq)).symm, rfl⟩
theorem name_spec (v : Value) (zs : List Int) (F : HP) (hF : ∀ h, F h → rdN v zs h) : CallsS Tryd.prog 9 #[v] F [] (fun r Ps => r = sV (nameN zs) ∧ Ps = []) := by
  refine callsS_enter Tryd.func9 rfl Tryd.ntmps9 (by simp) (fun E => ?_)
  refine W_seq ?_
  refine W.pre (K' := [(0, _)]) (L' := [(0, _)]) ?_ ⟨rfl, trivial⟩ ⟨rfl, trivial⟩
  refine W_regL (WL_pure rfl rfl (by decide) (Pu_assign rfl rfl) (WL_nil (X_then ?_)))
  refine W_seq ?_
  refine W.pre (K' := [(0, _), (2, _)]) (L' := [(0, _)]) ?_ ⟨rfl, ⟨rfl, trivial⟩⟩ ⟨rfl, trivial⟩
  refine W_regL (WL_cons rfl rfl (by decide) (OpT_buildOnes (r := 101) (ss some13) rfl rfl Tryd.runUnderlying30 Tryd.sizeOf9 Tryd.zeroValue9 rfl rfl (by decide) rfl (ss_cells _) (fun v6 => (WL_pure rfl rfl (by decide) (Pu_assign rfl rfl) (WL_nil (X_then ?_))))))
  refine W_seq ?_
  refine W.pre (K' := [(0, _), (2, _), (3, _)]) (L' := [(0, _), (101, _)]) ?_ ⟨rfl, ⟨rfl, ⟨rfl, trivial⟩⟩⟩ ⟨rfl, ⟨rfl, trivial⟩⟩
  refine W_regL (WL_pure rfl rfl (by decide) (Pu_assign rfl rfl) (WL_nil (X_then ?_)))
  refine W_seq ?_
  refine W_seq ?_
  refine W.pre (K' := [(0, _), (2, _), (3, _), (4, _)]) (L' := [(0, _), (101, _)]) ?_ ⟨rfl, ⟨rfl, ⟨rfl, ⟨rfl, trivial⟩⟩⟩⟩ ⟨rfl, ⟨rfl, trivial⟩⟩
  refine W_regL (WL_pure rfl rfl (by decide) (Pu_assign rfl rfl) (WL_nil (X_then ?_)))
  refine W_block ?_
  refine W_turn (P' := rowS 9 v6 some13) 101 rfl (fun h hp => hp) ?_
  refine W_loop (α := Nat) (fun i => [(0, v), (3, v6), (4, sV (nameA zs i)), (5, .int .i64 (i : Int))]) (fun i => [(0, F), (101, rowS 9 v6 some13)]) (fun i => i ≤ zs.length ∧ i ≤ 12) (fun i => 12 - i) (0) ⟨Nat.zero_le _, by decide⟩ ⟨rfl, ⟨rfl, ⟨rfl, ⟨rfl, trivial⟩⟩⟩⟩ ⟨rfl, ⟨rfl, trivial⟩⟩ (fun x hx => ?_)
  obtain ⟨hxl, hx12⟩ := hx
  have hal := nameA_len zs x hx12
  refine W_seq ?_
  refine W_seq ?_
  refine W.pre (K' := [(0, _), (3, _), (4, _), (5, _)]) (L' := [(0, _), (101, _)]) ?_ ⟨rfl, ⟨rfl, ⟨rfl, ⟨rfl, trivial⟩⟩⟩⟩ ⟨rfl, ⟨rfl, trivial⟩⟩
  refine W_regL (WL_pure rfl rfl (by decide) (Pu_move rfl rfl) (WL_pure rfl rfl (by decide) (Pu_move rfl rfl) (WL_pure rfl rfl (by decide) (Pu_len (r := 0) rfl Tryd.runUnderlying22 rfl rfl hF) (WL_pure rfl rfl (by decide) (Pu_bin rfl rfl rfl (run_lss _ _ _ _ _ _)) (WL_pure rfl rfl (by decide) (Pu_move rfl rfl) (WL_guardP rfl rfl rfl rfl (by decide) (fun hb => (Pu_move rfl rfl)) (WL_guardP rfl rfl rfl rfl (by decide) (fun hb => (Pu_bin rfl (ev_gv rfl hb) rfl (run_lss _ _ _ _ _ _))) (WL_pure rfl rfl (by decide) (Pu_and rfl rfl rfl) (WL_nil (X_then ?_))))))))))
  refine W_cond rfl (fun hc14 => ?_) (fun hc14 => ?_)
  ·
    simp only [Bool.and_eq_true, decide_eq_true_eq] at hc14
    have hlt : x < zs.length := by omega
    have hlt2 : x < 12 := by omega
    refine W_skip (X_then ?_)
    refine W_seq ?_
    refine W_block ?_
    refine W.pre (K' := [(0, _), (3, _), (4, _), (5, _), (14, _)]) (L' := [(0, _), (101, _)]) ?_ ⟨rfl, ⟨rfl, ⟨rfl, ⟨rfl, ⟨rfl, trivial⟩⟩⟩⟩⟩ ⟨rfl, ⟨rfl, trivial⟩⟩
    refine W_regL (WL_pure rfl rfl (by decide) (Pu_move rfl rfl) (WL_pure rfl rfl (by decide) (Pu_move rfl rfl) (WL_pure rfl rfl (by decide) (Pu_move rfl rfl) (WL_pure rfl rfl (by decide) (Pu_move rfl rfl) (WL_pure rfl rfl (by decide) (Pu_idxS1 (r := 0) rfl Tryd.runUnderlying22 Tryd.sizeOf3 rfl rfl rfl hF (by omega)) (WL_pure rfl rfl (by decide) (Pu_loadS (r := 0) rfl Tryd.isAgg3 rfl rfl hF (is_at hlt)) (WL_pure rfl rfl (by decide) (Pu_move rfl rfl) (WL_pure rfl rfl (by decide) (Pu_len (r := 101) rfl Tryd.runUnderlying30 rfl rfl rowS_rd) (WL_cons rfl rfl (by decide) (OpT_call 200 [0, 101] [] rfl Tryd.call10 rfl rfl rfl (by decide) (by decide) (within_spec (zs.getD x 0) 13 (by omega) (by omega) _) (fun v25 Ps25 hR25 => ?_)))))))))))
    obtain ⟨rfl, rfl⟩ := hR25
    refine (WL_pure rfl rfl (by decide) (Pu_idxS1 (r := 101) rfl Tryd.runUnderlying30 Tryd.sizeOf9 rfl rfl rfl rowS_rd (by show 0 ≤ _ ∧ _ < (13 : Int); omega)) (WL_pure rfl rfl (by decide) (Pu_loadS (r := 101) rfl Tryd.isAgg9 rfl rfl rowS_rd (ss_at (z13 _))) (WL_pure rfl rfl (by decide) (Pu_bin rfl rfl rfl (run_addL _ _ _ _ _ (by have := (piece_len _ (pieceN_mem (zs.getD x 0))).2; unfold pieceN at this; omega))) (WL_pure rfl rfl (by decide) (Pu_assign rfl rfl) (WL_nil (X_block (X_then ?_)))))))
    refine W.pre (K' := [(0, _), (3, _), (4, _), (5, _), (14, _)]) (L' := [(0, _), (101, _)]) ?_ ⟨rfl, ⟨rfl, ⟨rfl, ⟨rfl, ⟨rfl, trivial⟩⟩⟩⟩⟩ ⟨rfl, ⟨rfl, trivial⟩⟩
    refine W_regL (WL_pure rfl rfl (by decide) (Pu_move rfl rfl) (WL_pure rfl rfl (by decide) (Pu_bin rfl rfl rfl (run_add _ _ _ _ _ (by omega))) (WL_pure rfl rfl (by decide) (Pu_assign rfl rfl) (WL_nil ?_))))
    exact X_round (x + 1) ⟨hlt, hlt2⟩ (by omega) ⟨rfl, rfl, congrArg some (by rw [nameA_succ hlt] <;> rfl), rfl, trivial⟩ ⟨rfl, rfl, trivial⟩
  ·
    simp only [Bool.and_eq_false_iff, decide_eq_false_iff_not] at hc14
    have hfin := nameA_end (zs := zs) (k := x) (by omega)
    refine W_exit (X_then_exit (X_then_exit (X_block_exit (X_then ?_))))
    refine W_seq ?_
    refine W_seq ?_
    refine W.pre (K' := [(0, _), (3, _), (4, _), (5, _), (14, _)]) (L' := [(0, _), (101, _)]) ?_ ⟨rfl, ⟨rfl, ⟨rfl, ⟨rfl, ⟨rfl, trivial⟩⟩⟩⟩⟩ ⟨rfl, ⟨rfl, trivial⟩⟩
    refine W_regL (WL_pure rfl rfl (by decide) (Pu_move rfl rfl) (WL_pure rfl rfl (by decide) (Pu_bin rfl rfl rfl (run_strEq _ _ _ _ _)) (WL_pure rfl rfl (by decide) (Pu_move rfl rfl) (WL_guardP rfl rfl rfl rfl (by decide) (fun hb => (Pu_move rfl rfl)) (WL_guardP rfl rfl rfl rfl (by decide) (fun hb => (Pu_bin rfl (ev_gv rfl hb) rfl (run_strEq _ _ _ _ _))) (WL_pure rfl rfl (by decide) (Pu_or rfl rfl rfl) (WL_pure rfl rfl (by decide) (Pu_move rfl rfl) (WL_guardP rfl rfl rfl rfl (by decide) (fun hb => (Pu_move rfl rfl)) (WL_guardP rfl rfl rfl rfl (by decide) (fun hb => (Pu_bin rfl (ev_gv rfl hb) rfl (run_strEq _ _ _ _ _))) (WL_pure rfl rfl (by decide) (Pu_or rfl rfl rfl) (WL_nil (X_then ?_))))))))))))
    refine W_cond rfl (fun hc38 => ?_) (fun hc38 => ?_)
    ·
      have hb : bad0 (nameA zs x) = true := hc38
      refine W.pre (K' := [(0, _), (3, _), (4, _), (5, _), (14, _), (38, _)]) (L' := [(0, _), (101, _)]) ?_ ⟨rfl, ⟨rfl, ⟨rfl, ⟨rfl, ⟨rfl, ⟨rfl, trivial⟩⟩⟩⟩⟩⟩ ⟨rfl, ⟨rfl, trivial⟩⟩
      refine W_regL (WL_pure rfl rfl (by decide) (Pu_move rfl rfl) (WL_pure rfl rfl (by decide) (Pu_bin rfl rfl rfl (run_addL _ _ _ _ _ (by simp only [List.length_cons, List.length_nil]; omega))) (WL_pure rfl rfl (by decide) (Pu_assign rfl rfl) (WL_nil (X_then ?_)))))
      refine W_seq ?_
      refine W.pre (K' := [(0, _), (3, _), (4, _), (5, _), (14, _), (38, _)]) (L' := [(0, _), (101, _)]) ?_ ⟨rfl, ⟨rfl, ⟨rfl, ⟨rfl, ⟨rfl, ⟨rfl, trivial⟩⟩⟩⟩⟩⟩ ⟨rfl, ⟨rfl, trivial⟩⟩
      refine W_regL (WL_pure rfl rfl (by decide) (Pu_move rfl rfl) (WL_pure rfl rfl (by decide) (Pu_assign rfl rfl) (WL_nil (X_then ?_))))
      refine W_ret ?_
      exact X_ret [] (Ps := []) (res1 Tryd.results9 rfl) rfl (by decide) ⟨by rw [← hfin, fixN, hb] <;> rfl, rfl⟩
    ·
      have hb : bad0 (nameA zs x) = false := hc38
      refine W_skip (X_then ?_)
      refine W_seq ?_
      refine W.pre (K' := [(0, _), (3, _), (4, _), (5, _), (14, _), (38, _)]) (L' := [(0, _), (101, _)]) ?_ ⟨rfl, ⟨rfl, ⟨rfl, ⟨rfl, ⟨rfl, ⟨rfl, trivial⟩⟩⟩⟩⟩⟩ ⟨rfl, ⟨rfl, trivial⟩⟩
      refine W_regL (WL_pure rfl rfl (by decide) (Pu_move rfl rfl) (WL_pure rfl rfl (by decide) (Pu_assign rfl rfl) (WL_nil (X_then ?_))))
      refine W_ret ?_
      exact X_ret [] (Ps := []) (res1 Tryd.results9 rfl) rfl (by decide) ⟨by rw [← hfin, fixN, hb] <;> rfl, rfl⟩
theorem known_spec (F : HP) (hT : ∀ h, F h → tabsP h) : CallsS Tryd.prog 8 #[] F [] (fun r Ps => r = .bool true ∧ Ps = []) := by
  refine callsS_enter Tryd.func8 rfl Tryd.ntmps8 (by simp) (fun E => ?_)
  refine W_seq ?_
  refine W_regL (WL_pure rfl rfl (by decide) (Pu_assign rfl rfl) (WL_nil (X_then ?_)))
  refine W_seq ?_
  refine W.pre (K' := [(0, _)]) (L' := [(0, _)]) ?_ ⟨rfl, trivial⟩ ⟨rfl, trivial⟩
  refine W_regL (WL_cons rfl rfl (by decide) (OpT_call 200 [0] [] rfl Tryd.call13 rfl rfl rfl (by decide) (by decide) (split_nspec [47, 97, 47, 98] (by decide) _ (tabs_star 0 rfl hT)) (fun v6 Ps6 hR6 => ?_)))
  obtain ⟨v6, rfl, rfl⟩ := hR6
  rw [show splitN [47, 97, 47, 98] = ([[97], [98]], 0) from by decide +kernel]
  refine (WL_pure rfl rfl (by decide) (Pu_move rfl rfl) (WL_pure rfl rfl (by decide) (Pu_extract rfl rfl rfl) (WL_pure rfl rfl (by decide) (Pu_extract rfl rfl rfl) (WL_pure rfl rfl (by decide) (Pu_assign rfl rfl) (WL_pure rfl rfl (by decide) (Pu_assign rfl rfl) (WL_nil (X_then ?_)))))))
  refine W_seq ?_
  refine W.pre (K' := [(0, _), (1, _), (2, _)]) (L' := [(0, _), (200, _)]) ?_ ⟨rfl, ⟨rfl, ⟨rfl, trivial⟩⟩⟩ ⟨rfl, ⟨rfl, trivial⟩⟩
  refine W_regL (WL_cons rfl rfl (by decide) (OpT_call 300 [0, 200] [] rfl Tryd.call13 rfl rfl rfl (by decide) (by decide) (split_nspec [47, 47] (by decide) _ (tabs_star 0 rfl hT)) (fun v10 Ps10 hR10 => ?_)))
  obtain ⟨v10, rfl, rfl⟩ := hR10
  rw [show splitN [47, 47] = ([], 10) from by decide +kernel]
  refine (WL_pure rfl rfl (by decide) (Pu_move rfl rfl) (WL_pure rfl rfl (by decide) (Pu_extract rfl rfl rfl) (WL_pure rfl rfl (by decide) (Pu_extract rfl rfl rfl) (WL_pure rfl rfl (by decide) (Pu_assign rfl rfl) (WL_pure rfl rfl (by decide) (Pu_assign rfl rfl) (WL_nil (X_then ?_)))))))
  refine W_seq ?_
  refine W.pre (K' := [(0, _), (1, _), (2, _), (4, _)]) (L' := [(0, _), (200, _), (300, _)]) ?_ ⟨rfl, ⟨rfl, ⟨rfl, ⟨rfl, trivial⟩⟩⟩⟩ ⟨rfl, ⟨rfl, ⟨rfl, trivial⟩⟩⟩
  refine W_regL (WL_pure rfl rfl (by decide) (Pu_move rfl rfl) (WL_pure rfl rfl (by decide) (Pu_bin rfl rfl rfl (run_eql _ _ _ _ _ _)) (WL_pure rfl rfl (by decide) (Pu_move rfl rfl) (WL_guardP rfl rfl rfl rfl (by decide) (fun hb => (Pu_move rfl rfl)) (WL_guardP rfl rfl rfl rfl (by decide) (fun hb => (Pu_len (r := 200) rfl Tryd.runUnderlying30 (ev_gv rfl hb) rfl rowS_rd)) (WL_guardP rfl rfl rfl rfl (by decide) (fun hb => (Pu_bin rfl (ev_gv rfl hb) rfl (run_eql _ _ _ _ _ _))) (WL_pure rfl rfl (by decide) (Pu_and rfl rfl rfl) (WL_pure rfl rfl (by decide) (Pu_move rfl rfl) (WL_guardP rfl rfl rfl rfl (by decide) (fun hb => (Pu_move rfl rfl)) (WL_guardP rfl rfl rfl rfl (by decide) (fun hb => (Pu_idxS1 (r := 200) rfl Tryd.runUnderlying30 Tryd.sizeOf9 (ev_gv rfl hb) rfl rfl rowS_rd (by decide))) (WL_guardP rfl rfl rfl rfl (by decide) (fun hb => (Pu_loadS (r := 200) rfl Tryd.isAgg9 (ev_gv rfl hb) rfl rowS_rd (ss_at (ls := [[97], [98]]) (k := 0) (by decide)))) (WL_guardP rfl rfl rfl rfl (by decide) (fun hb => (Pu_bin rfl (ev_gv rfl hb) rfl (run_strEq _ _ _ _ _))) (WL_pure rfl rfl (by decide) (Pu_and rfl rfl rfl) (WL_pure rfl rfl (by decide) (Pu_move rfl rfl) (WL_guardP rfl rfl rfl rfl (by decide) (fun hb => (Pu_move rfl rfl)) (WL_guardP rfl rfl rfl rfl (by decide) (fun hb => (Pu_idxS1 (r := 200) rfl Tryd.runUnderlying30 Tryd.sizeOf9 (ev_gv rfl hb) rfl rfl rowS_rd (by decide))) (WL_guardP rfl rfl rfl rfl (by decide) (fun hb => (Pu_loadS (r := 200) rfl Tryd.isAgg9 (ev_gv rfl hb) rfl rowS_rd (ss_at (ls := [[97], [98]]) (k := 1) (by decide)))) (WL_guardP rfl rfl rfl rfl (by decide) (fun hb => (Pu_bin rfl (ev_gv rfl hb) rfl (run_strEq _ _ _ _ _))) (WL_pure rfl rfl (by decide) (Pu_and rfl rfl rfl) (WL_pure rfl rfl (by decide) (Pu_move rfl rfl) (WL_guardP rfl rfl rfl rfl (by decide) (fun hb => (Pu_move rfl rfl)) (WL_guardP rfl rfl rfl rfl (by decide) (fun hb => (Pu_bin rfl (ev_gv rfl hb) rfl (run_eql _ _ _ _ _ _))) (WL_pure rfl rfl (by decide) (Pu_and rfl rfl rfl) (WL_pure rfl rfl (by decide) (Pu_assign rfl rfl) (WL_nil (X_then ?_))))))))))))))))))))))))))
  refine W_ret ?_
  exact X_ret [] (Ps := []) (res1 Tryd.results8 rfl) rfl (by decide) ⟨rfl, rfl⟩
end Go.Proofs.YtjiafaiklmbbeaaDoor
