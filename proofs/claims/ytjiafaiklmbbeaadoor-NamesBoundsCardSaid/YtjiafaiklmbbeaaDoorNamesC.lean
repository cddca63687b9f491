/- latticeref3: a name is checked. -/
import Derived.Test.YtjiafaiklmbbeaaDoorNamesB
import Derived.Test.YtjiafaiklmbbeaaDoorTiN
namespace Go.Proofs.YtjiafaiklmbbeaaDoor
open Go.RowKit Go.Lib
set_option linter.unusedVariables false
set_option linter.unusedSimpArgs false

theorem wrongR_ref (b : Bool) (r : Nat) : (((b || decide ((r : Int) = 47)) || decide ((r : Int) < 32)) || decide ((r : Int) = 127)) = (b || wrongR r) := by
  rw [← wrongR_eq]
  cases b <;> simp
  cases decide ((r : Int) = 47) <;> simp
theorem oneR_zero {l : List UInt8} (h : decide (((oneR l).2 : Int) = 0) = true) : noRune l = true := by
  cases hn : noRune l with
  | true => rfl
  | false =>
    have h2 := of_decide_eq_true h
    unfold oneR at h2
    rw [hn] at h2
    have := decodeL_width l
    simp at h2
    omega
theorem oneR_pos {l : List UInt8} (h : decide (((oneR l).2 : Int) = 0) = false) : noRune l = false := by
  cases hn : noRune l with
  | false => rfl
  | true =>
    have h2 := of_decide_eq_false h
    unfold oneR at h2
    rw [hn] at h2
    simp at h2
theorem one_rspec (l : List UInt8) (i : Nat) (hi : i < l.length) (hl : l.length ≤ 140737488355328) (F : HP) : CallsS Tryd.prog 20 #[sV l, .int .i64 (i : Int)] F [] (fun v Ps => v = .tuple #[.int .i32 ((oneR (l.drop i)).1 : Int), .int .i64 ((oneR (l.drop i)).2 : Int)] ∧ Ps = []) := by
  have hne : l.drop i ≠ [] := by intro hc; have := congrArg List.length hc; simp at this; omega
  have hg0 : (l.drop i).getD 0 0 = at0 l i := by rw [at0_drop]; rfl
  have hb256 := (at0 l i).toNat_lt
  refine callsS_enter Tryd.func20 rfl Tryd.ntmps20 (by simp) (fun E => ?_)
  refine W_seq ?_
  refine W.pre (K' := [(0, _), (1, _)]) (L' := [(0, _)]) ?_ ⟨rfl, ⟨rfl, trivial⟩⟩ ⟨rfl, trivial⟩
  refine W_regL (WL_pure rfl rfl (by decide) (Pu_assign rfl rfl) (WL_pure rfl rfl (by decide) (Pu_assign rfl rfl) (WL_nil (X_then ?_))))
  refine W_seq ?_
  refine W.pre (K' := [(0, _), (1, _), (4, _), (5, _)]) (L' := [(0, _)]) ?_ ⟨rfl, ⟨rfl, ⟨rfl, ⟨rfl, trivial⟩⟩⟩⟩ ⟨rfl, trivial⟩
  refine W_regL (WL_pure rfl rfl (by decide) (Pu_move rfl rfl) (WL_pure rfl rfl (by decide) (Pu_move rfl rfl) (WL_pure rfl rfl (by decide) (Pu_idxStrN (i) rfl Tryd.underlying9 rfl rfl rfl hi) (WL_pure rfl rfl (by decide) (Pu_assign rfl rfl) (WL_nil (X_then ?_))))))
  refine W_seq ?_
  refine W.pre (K' := [(0, _), (1, _), (4, _), (5, _), (6, _)]) (L' := [(0, _)]) ?_ ⟨rfl, ⟨rfl, ⟨rfl, ⟨rfl, ⟨rfl, trivial⟩⟩⟩⟩⟩ ⟨rfl, trivial⟩
  refine W_regL (WL_pure rfl rfl (by decide) (Pu_assign rfl rfl) (WL_pure rfl rfl (by decide) (Pu_assign rfl rfl) (WL_nil (X_then ?_))))
  refine W_seq ?_
  refine W_block ?_
  refine W_seq ?_
  refine W.pre (K' := [(0, _), (1, _), (4, _), (5, _), (6, _), (7, _), (8, _)]) (L' := [(0, _)]) ?_ ⟨rfl, ⟨rfl, ⟨rfl, ⟨rfl, ⟨rfl, ⟨rfl, ⟨rfl, trivial⟩⟩⟩⟩⟩⟩⟩ ⟨rfl, trivial⟩
  refine W_regL (WL_pure rfl rfl (by decide) (Pu_move rfl rfl) (WL_pure rfl rfl (by decide) (Pu_bin rfl rfl rfl (run_lss _ _ _ _ _ _)) (WL_pure rfl rfl (by decide) (Pu_assign rfl rfl) (WL_nil (X_then ?_)))))
  refine W_cond rfl (fun hc13 => ?_) (fun hc13 => ?_)
  ·
    have h128 : (at0 l i).toNat < 128 := by have := of_decide_eq_true hc13; omega
    refine W_seq ?_
    refine W.pre (K' := [(0, _), (1, _), (4, _), (5, _), (6, _), (7, _), (8, _), (13, _)]) (L' := [(0, _)]) ?_ ⟨rfl, ⟨rfl, ⟨rfl, ⟨rfl, ⟨rfl, ⟨rfl, ⟨rfl, ⟨rfl, trivial⟩⟩⟩⟩⟩⟩⟩⟩ ⟨rfl, trivial⟩
    refine W_regL (WL_pure rfl rfl (by decide) (Pu_move rfl rfl) (WL_pure rfl rfl (by decide) (Pu_conv rfl rfl (conv_u8 _ Tryd.runUnderlying5 Tryd.runUnderlying21)) (WL_pure rfl rfl (by decide) (Pu_assign rfl rfl) (WL_pure rfl rfl (by decide) (Pu_assign rfl rfl) (WL_nil (X_then ?_))))))
    refine W_ret (X_block_ret (X_then_ret ?_))
    have hs : oneR (l.drop i) = ((at0 l i).toNat, 1) := (oneM_eq _ hne).symm.trans ((oneM_ascii (by rw [hg0]; exact h128)).trans (by rw [hg0]))
    exact X_ret [] (Ps := []) (res2 Tryd.results20 rfl rfl) rfl (by decide) ⟨by rw [hs] <;> rfl, rfl⟩
  ·
    have h128 : ¬ (at0 l i).toNat < 128 := by have := of_decide_eq_false hc13; omega
    refine W_seq ?_
    refine W.pre (K' := [(0, _), (1, _), (4, _), (5, _), (6, _), (7, _), (8, _), (13, _)]) (L' := [(0, _)]) ?_ ⟨rfl, ⟨rfl, ⟨rfl, ⟨rfl, ⟨rfl, ⟨rfl, ⟨rfl, ⟨rfl, trivial⟩⟩⟩⟩⟩⟩⟩⟩ ⟨rfl, trivial⟩
    refine W_regL (WL_pure rfl rfl (by decide) (Pu_move rfl rfl) (WL_pure rfl rfl (by decide) (Pu_bin rfl rfl rfl (run_geq _ _ _ _ _ _)) (WL_pure rfl rfl (by decide) (Pu_move rfl rfl) (WL_guardP rfl rfl rfl rfl (by decide) (fun hb => (Pu_move rfl rfl)) (WL_guardP rfl rfl rfl rfl (by decide) (fun hb => (Pu_bin rfl (ev_gv rfl hb) rfl (run_lss _ _ _ _ _ _))) (WL_pure rfl rfl (by decide) (Pu_and rfl rfl rfl) (WL_pure rfl rfl (by decide) (Pu_assign rfl rfl) (WL_nil (X_then ?_)))))))))
    refine W_cond rfl (fun hc18 => ?_) (fun hc18 => ?_)
    ·
      simp only [Bool.and_eq_true, decide_eq_true_eq] at hc18
      refine W.pre (K' := [(0, _), (1, _), (4, _), (5, _), (6, _), (7, _), (8, _), (13, _), (18, _)]) (L' := [(0, _)]) ?_ ⟨rfl, ⟨rfl, ⟨rfl, ⟨rfl, ⟨rfl, ⟨rfl, ⟨rfl, ⟨rfl, ⟨rfl, trivial⟩⟩⟩⟩⟩⟩⟩⟩⟩ ⟨rfl, trivial⟩
      refine W_regL (WL_pure rfl rfl (by decide) (Pu_move rfl rfl) (WL_pure rfl rfl (by decide) (Pu_bin rfl rfl rfl (run_and31 _ _ _ _)) (WL_pure rfl rfl (by decide) (Pu_conv rfl rfl (conv_small _ (by omega) Tryd.runUnderlying5 Tryd.runUnderlying21)) (WL_pure rfl rfl (by decide) (Pu_assign rfl rfl) (WL_pure rfl rfl (by decide) (Pu_assign rfl rfl) (WL_nil (X_block (X_then ?_))))))))
      refine W_seq ?_
      refine W_seq ?_
      refine W.pre (K' := [(0, _), (1, _), (4, _), (5, _), (6, _), (7, _), (8, _), (13, _), (18, _)]) (L' := [(0, _)]) ?_ ⟨rfl, ⟨rfl, ⟨rfl, ⟨rfl, ⟨rfl, ⟨rfl, ⟨rfl, ⟨rfl, ⟨rfl, trivial⟩⟩⟩⟩⟩⟩⟩⟩⟩ ⟨rfl, trivial⟩
      have hld : lead ((l.drop i).getD 0 0).toNat = (2, (at0 l i).toNat % 32) := by rw [hg0]; unfold lead; rw [if_pos (by omega)]
      refine W_regL (WL_pure rfl rfl (by decide) (Pu_move rfl rfl) (WL_pure rfl rfl (by decide) (Pu_bin rfl rfl rfl (run_eql _ _ _ _ _ _)) (WL_pure rfl rfl (by decide) (Pu_move rfl rfl) (WL_guardP rfl rfl rfl rfl (by decide) (fun hb => (Pu_move rfl rfl)) (WL_guardP rfl rfl rfl rfl (by decide) (fun hb => (Pu_move rfl rfl)) (WL_guardP rfl rfl rfl rfl (by decide) (fun hb => (Pu_bin rfl (ev_gv rfl hb) (ev_gv rfl hb) (run_add _ _ _ _ _ (by omega)))) (WL_guardP rfl rfl rfl rfl (by decide) (fun hb => (Pu_move rfl rfl)) (WL_guardP rfl rfl rfl rfl (by decide) (fun hb => (Pu_lenStr rfl Tryd.underlying9 (ev_gv rfl hb))) (WL_guardP rfl rfl rfl rfl (by decide) (fun hb => (Pu_bin rfl (ev_gv rfl hb) (ev_gv rfl hb) (run_gtr _ _ _ _ _ _))) (WL_pure rfl rfl (by decide) (Pu_or rfl rfl rfl) (WL_nil (X_then ?_))))))))))))
      refine W_cond rfl (fun hc57 => ?_) (fun hc57 => ?_)
      ·
        have hsh : l.length < i + 2 := by simp only [Bool.or_eq_true, decide_eq_true_eq] at hc57; omega
        refine W_seq ?_
        refine W.pre (K' := [(0, _), (1, _), (4, _), (5, _), (6, _), (7, _), (8, _), (13, _), (18, _), (57, _)]) (L' := [(0, _)]) ?_ ⟨rfl, ⟨rfl, ⟨rfl, ⟨rfl, ⟨rfl, ⟨rfl, ⟨rfl, ⟨rfl, ⟨rfl, ⟨rfl, trivial⟩⟩⟩⟩⟩⟩⟩⟩⟩⟩ ⟨rfl, trivial⟩
        refine W_regL (WL_pure rfl rfl (by decide) (Pu_assign rfl rfl) (WL_pure rfl rfl (by decide) (Pu_assign rfl rfl) (WL_nil (X_then ?_))))
        refine W_ret (X_then_ret ?_)
        have hs : oneR (l.drop i) = (0, 0) := (oneM_eq _ hne).symm.trans (oneM_short (by rw [hg0]; exact h128) hld (.inr (by rw [List.length_drop]; omega)))
        exact X_ret [] (Ps := []) (res2 Tryd.results20 rfl rfl) rfl (by decide) ⟨by rw [hs] <;> rfl, rfl⟩
      ·
        have hsh : i + 2 ≤ l.length := by simp only [Bool.or_eq_false_iff, decide_eq_false_iff_not] at hc57; omega
        refine W_skip (X_then ?_)
        refine W_seq ?_
        refine W_seq ?_
        refine W.pre (K' := [(0, _), (1, _), (4, _), (5, _), (6, _), (7, _), (8, _), (13, _), (18, _), (57, _)]) (L' := [(0, _)]) ?_ ⟨rfl, ⟨rfl, ⟨rfl, ⟨rfl, ⟨rfl, ⟨rfl, ⟨rfl, ⟨rfl, ⟨rfl, ⟨rfl, trivial⟩⟩⟩⟩⟩⟩⟩⟩⟩⟩ ⟨rfl, trivial⟩
        refine W_regL (WL_pure rfl rfl (by decide) (Pu_assign rfl rfl) (WL_nil (X_then ?_)))
        refine W_block ?_
        refine W_loop (α := Nat × Nat) (fun x => [(0, sV l), (1, .int .i64 (i : Int)), (7, .int .i64 2), (8, .int .i32 (x.2 : Int)), (9, .int .i64 (x.1 : Int))]) (fun x => [(0, F)]) (fun x => restF (l.drop i) 2 (5 - x.1) x.1 x.2 = restF (l.drop i) 2 4 1 ((at0 l i).toNat % 32) ∧ ((x.1 = 1 ∧ x.2 < 32) ∨ (x.1 = 2 ∧ x.2 < 2048) ∨ (x.1 = 3 ∧ x.2 < 131072) ∨ (x.1 = 4 ∧ x.2 < 8388608)) ∧ x.1 ≤ 2) (fun x => 2 - x.1) ((1, (at0 l i).toNat % 32)) ⟨rfl, .inl ⟨rfl, by dsimp only; omega⟩, by dsimp only; omega⟩ ⟨rfl, ⟨rfl, ⟨rfl, ⟨rfl, ⟨rfl, trivial⟩⟩⟩⟩⟩ ⟨rfl, trivial⟩ (fun x hx => ?_)
        obtain ⟨hrs, hbd, hxn⟩ := hx
        refine W_seq ?_
        refine W_seq ?_
        refine W.pre (K' := [(0, _), (1, _), (7, _), (8, _), (9, _)]) (L' := [(0, _)]) ?_ ⟨rfl, ⟨rfl, ⟨rfl, ⟨rfl, ⟨rfl, trivial⟩⟩⟩⟩⟩ ⟨rfl, trivial⟩
        refine W_regL (WL_pure rfl rfl (by decide) (Pu_move rfl rfl) (WL_pure rfl rfl (by decide) (Pu_move rfl rfl) (WL_pure rfl rfl (by decide) (Pu_bin rfl rfl rfl (run_lss _ _ _ _ _ _)) (WL_nil (X_then ?_)))))
        refine W_cond rfl (fun hc60 => ?_) (fun hc60 => ?_)
        ·
          have hlt : x.1 < 2 := by have := of_decide_eq_true hc60; omega
          refine W_skip (X_then ?_)
          refine W_seq ?_
          refine W_block ?_
          refine W_seq ?_
          refine W_seq ?_
          refine W.pre (K' := [(0, _), (1, _), (7, _), (8, _), (9, _), (60, _)]) (L' := [(0, _)]) ?_ ⟨rfl, ⟨rfl, ⟨rfl, ⟨rfl, ⟨rfl, ⟨rfl, trivial⟩⟩⟩⟩⟩⟩ ⟨rfl, trivial⟩
          refine W_regL (WL_pure rfl rfl (by decide) (Pu_move rfl rfl) (WL_pure rfl rfl (by decide) (Pu_move rfl rfl) (WL_pure rfl rfl (by decide) (Pu_move rfl rfl) (WL_pure rfl rfl (by decide) (Pu_bin rfl rfl rfl (run_add _ _ _ _ _ (by omega))) (WL_pure rfl rfl (by decide) (Pu_idxStrN (i + x.1) rfl Tryd.underlying9 rfl rfl (by omega) (by omega)) (WL_pure rfl rfl (by decide) (Pu_bin rfl rfl rfl (run_and192 _ _ _ _)) (WL_pure rfl rfl (by decide) (Pu_bin rfl rfl rfl (run_neq _ _ _ _ _ _)) (WL_nil (X_then ?_)))))))))
          refine W_cond rfl (fun hc69 => ?_) (fun hc69 => ?_)
          ·
            have h2 : ¬ (at0 l (i + x.1)).toNat / 64 = 2 := by simp at hc69; omega
            refine W_seq ?_
            refine W.pre (K' := [(0, _), (1, _), (7, _), (8, _), (9, _), (60, _), (69, _)]) (L' := [(0, _)]) ?_ ⟨rfl, ⟨rfl, ⟨rfl, ⟨rfl, ⟨rfl, ⟨rfl, ⟨rfl, trivial⟩⟩⟩⟩⟩⟩⟩ ⟨rfl, trivial⟩
            refine W_regL (WL_pure rfl rfl (by decide) (Pu_assign rfl rfl) (WL_pure rfl rfl (by decide) (Pu_assign rfl rfl) (WL_nil (X_then ?_))))
            refine W_ret (X_then_ret (X_block_ret (X_then_ret (X_then_ret (X_block_ret (X_then_ret ?_))))))
            have hs : oneR (l.drop i) = (0, 0) := (oneM_eq _ hne).symm.trans (oneM_none (by rw [hg0]; exact h128) hld (by rw [List.length_drop]; omega) (by rw [← hrs, show 5 - x.1 = (4 - x.1) + 1 by omega]; exact restF_bad hlt (by rw [at0_drop]; exact h2)))
            exact X_ret [] (Ps := []) (res2 Tryd.results20 rfl rfl) rfl (by decide) ⟨by rw [hs] <;> rfl, rfl⟩
          ·
            have h2 : (at0 l (i + x.1)).toNat / 64 = 2 := by simp at hc69; omega
            refine W_skip (X_then ?_)
            refine W.pre (K' := [(0, _), (1, _), (7, _), (8, _), (9, _), (60, _), (69, _)]) (L' := [(0, _)]) ?_ ⟨rfl, ⟨rfl, ⟨rfl, ⟨rfl, ⟨rfl, ⟨rfl, ⟨rfl, trivial⟩⟩⟩⟩⟩⟩⟩ ⟨rfl, trivial⟩
            refine W_regL (WL_pure rfl rfl (by decide) (Pu_move rfl rfl) (WL_pure rfl rfl (by decide) (Pu_bin rfl rfl rfl (run_shl6 _ _ _ _ (by omega))) (WL_pure rfl rfl (by decide) (Pu_move rfl rfl) (WL_pure rfl rfl (by decide) (Pu_move rfl rfl) (WL_pure rfl rfl (by decide) (Pu_move rfl rfl) (WL_pure rfl rfl (by decide) (Pu_bin rfl rfl rfl (run_add _ _ _ _ _ (by omega))) (WL_pure rfl rfl (by decide) (Pu_idxStrN (i + x.1) rfl Tryd.underlying9 rfl rfl (by omega) (by omega)) (WL_pure rfl rfl (by decide) (Pu_bin rfl rfl rfl (run_and63 _ _ _ _)) (WL_pure rfl rfl (by decide) (Pu_conv rfl rfl (conv_small _ (by omega) Tryd.runUnderlying5 Tryd.runUnderlying21)) (WL_pure rfl rfl (by decide) (Pu_bin rfl rfl rfl (run_or6 _ _ (by omega) (by omega) _ _ _)) (WL_pure rfl rfl (by decide) (Pu_assign rfl rfl) (WL_nil (X_block (X_then ?_))))))))))))))
            refine W.pre (K' := [(0, _), (1, _), (7, _), (8, _), (9, _), (60, _), (69, _)]) (L' := [(0, _)]) ?_ ⟨rfl, ⟨rfl, ⟨rfl, ⟨rfl, ⟨rfl, ⟨rfl, ⟨rfl, trivial⟩⟩⟩⟩⟩⟩⟩ ⟨rfl, trivial⟩
            refine W_regL (WL_pure rfl rfl (by decide) (Pu_move rfl rfl) (WL_pure rfl rfl (by decide) (Pu_bin rfl rfl rfl (run_add _ _ _ _ _ (by omega))) (WL_pure rfl rfl (by decide) (Pu_assign rfl rfl) (WL_nil ?_))))
            exact X_round (x.1 + 1, x.2 * 64 + (at0 l (i + x.1)).toNat % 64) ⟨by rw [← hrs, show 5 - x.1 = (4 - x.1) + 1 by omega, restF_ok hlt (by rw [at0_drop]; exact h2), at0_drop]; dsimp only; rw [show 5 - (x.1 + 1) = 4 - x.1 by omega], by dsimp only; omega, by dsimp only; omega⟩ (by dsimp only; omega) ⟨rfl, rfl, rfl, rfl, rfl, trivial⟩ ⟨rfl, trivial⟩
        ·
          have hge : 2 ≤ x.1 := by have := of_decide_eq_false hc60; omega
          refine W_exit (X_then_exit (X_then_exit (X_block_exit (X_then ?_))))
          refine W_seq ?_
          refine W_seq ?_
          refine W.pre (K' := [(0, _), (1, _), (7, _), (8, _), (9, _), (60, _)]) (L' := [(0, _)]) ?_ ⟨rfl, ⟨rfl, ⟨rfl, ⟨rfl, ⟨rfl, ⟨rfl, trivial⟩⟩⟩⟩⟩⟩ ⟨rfl, trivial⟩
          refine W_regL (WL_pure rfl rfl (by decide) (Pu_move rfl rfl) (WL_pure rfl rfl (by decide) (Pu_bin rfl rfl rfl (run_gtr _ _ _ _ _ _)) (WL_pure rfl rfl (by decide) (Pu_move rfl rfl) (WL_guardP rfl rfl rfl rfl (by decide) (fun hb => (Pu_move rfl rfl)) (WL_guardP rfl rfl rfl rfl (by decide) (fun hb => (Pu_bin rfl (ev_gv rfl hb) rfl (run_geq _ _ _ _ _ _))) (WL_guardP rfl rfl rfl rfl (by decide) (fun hb => (Pu_move rfl (ev_gv rfl hb))) (WL_guardP2 rfl rfl rfl rfl (by decide) (fun hb => (Pu_move rfl rfl)) (WL_guardP2 rfl rfl rfl rfl (by decide) (fun hb => (Pu_bin rfl (ev_gv rfl hb) rfl (run_leq _ _ _ _ _ _))) (WL_guardP rfl rfl rfl rfl (by decide) (fun hb => (Pu_and2 hb rfl (ev_gv rfl hb) rfl)) (WL_pure rfl rfl (by decide) (Pu_or rfl rfl rfl) (WL_pure rfl rfl (by decide) (Pu_move rfl rfl) (WL_guardP rfl rfl rfl rfl (by decide) (fun hb => (Pu_move rfl rfl)) (WL_guardP rfl rfl rfl rfl (by decide) (fun hb => (Pu_bin rfl (ev_gv rfl hb) rfl (run_eql _ _ _ _ _ _))) (WL_guardP rfl rfl rfl rfl (by decide) (fun hb => (Pu_move rfl (ev_gv rfl hb))) (WL_guardP2 rfl rfl rfl rfl (by decide) (fun hb => (Pu_move rfl rfl)) (WL_guardP2 rfl rfl rfl rfl (by decide) (fun hb => (Pu_bin rfl (ev_gv rfl hb) rfl (run_lss _ _ _ _ _ _))) (WL_guardP rfl rfl rfl rfl (by decide) (fun hb => (Pu_and2 hb rfl (ev_gv rfl hb) rfl)) (WL_pure rfl rfl (by decide) (Pu_or rfl rfl rfl) (WL_pure rfl rfl (by decide) (Pu_move rfl rfl) (WL_guardP rfl rfl rfl rfl (by decide) (fun hb => (Pu_move rfl rfl)) (WL_guardP rfl rfl rfl rfl (by decide) (fun hb => (Pu_bin rfl (ev_gv rfl hb) rfl (run_eql _ _ _ _ _ _))) (WL_guardP rfl rfl rfl rfl (by decide) (fun hb => (Pu_move rfl (ev_gv rfl hb))) (WL_guardP2 rfl rfl rfl rfl (by decide) (fun hb => (Pu_move rfl rfl)) (WL_guardP2 rfl rfl rfl rfl (by decide) (fun hb => (Pu_bin rfl (ev_gv rfl hb) rfl (run_lss _ _ _ _ _ _))) (WL_guardP rfl rfl rfl rfl (by decide) (fun hb => (Pu_and2 hb rfl (ev_gv rfl hb) rfl)) (WL_pure rfl rfl (by decide) (Pu_or rfl rfl rfl) (WL_pure rfl rfl (by decide) (Pu_move rfl rfl) (WL_guardP rfl rfl rfl rfl (by decide) (fun hb => (Pu_move rfl rfl)) (WL_guardP rfl rfl rfl rfl (by decide) (fun hb => (Pu_bin rfl (ev_gv rfl hb) rfl (run_eql _ _ _ _ _ _))) (WL_guardP rfl rfl rfl rfl (by decide) (fun hb => (Pu_move rfl (ev_gv rfl hb))) (WL_guardP2 rfl rfl rfl rfl (by decide) (fun hb => (Pu_move rfl rfl)) (WL_guardP2 rfl rfl rfl rfl (by decide) (fun hb => (Pu_bin rfl (ev_gv rfl hb) rfl (run_lss _ _ _ _ _ _))) (WL_guardP rfl rfl rfl rfl (by decide) (fun hb => (Pu_and2 hb rfl (ev_gv rfl hb) rfl)) (WL_pure rfl rfl (by decide) (Pu_or rfl rfl rfl) (WL_nil (X_then ?_))))))))))))))))))))))))))))))))))))
          refine W_cond rfl (fun hc113 => ?_) (fun hc113 => ?_)
          ·
            simp only [Bool.or_eq_true, Bool.and_eq_true, decide_eq_true_eq, true_and] at hc113
            refine W_seq ?_
            refine W.pre (K' := [(0, _), (1, _), (7, _), (8, _), (9, _), (60, _), (113, _)]) (L' := [(0, _)]) ?_ ⟨rfl, ⟨rfl, ⟨rfl, ⟨rfl, ⟨rfl, ⟨rfl, ⟨rfl, trivial⟩⟩⟩⟩⟩⟩⟩ ⟨rfl, trivial⟩
            refine W_regL (WL_pure rfl rfl (by decide) (Pu_assign rfl rfl) (WL_pure rfl rfl (by decide) (Pu_assign rfl rfl) (WL_nil (X_then ?_))))
            refine W_ret (X_then_ret ?_)
            have hs : oneR (l.drop i) = (0, 0) := (oneM_eq _ hne).symm.trans ((oneM_some (by rw [hg0]; exact h128) hld (by rw [List.length_drop]; omega) (by rw [← hrs]; exact restF_end hge _)).trans (by unfold finO; rw [if_pos (by omega)]))
            exact X_ret [] (Ps := []) (res2 Tryd.results20 rfl rfl) rfl (by decide) ⟨by rw [hs] <;> rfl, rfl⟩
          ·
            simp only [Bool.or_eq_false_iff, Bool.and_eq_false_iff, decide_eq_false_iff_not, not_true_eq_false, false_or] at hc113
            refine W_skip (X_then ?_)
            refine W_seq ?_
            refine W.pre (K' := [(0, _), (1, _), (7, _), (8, _), (9, _), (60, _), (113, _)]) (L' := [(0, _)]) ?_ ⟨rfl, ⟨rfl, ⟨rfl, ⟨rfl, ⟨rfl, ⟨rfl, ⟨rfl, trivial⟩⟩⟩⟩⟩⟩⟩ ⟨rfl, trivial⟩
            refine W_regL (WL_pure rfl rfl (by decide) (Pu_move rfl rfl) (WL_pure rfl rfl (by decide) (Pu_move rfl rfl) (WL_pure rfl rfl (by decide) (Pu_assign rfl rfl) (WL_pure rfl rfl (by decide) (Pu_assign rfl rfl) (WL_nil (X_then ?_))))))
            refine W_ret ?_
            have hs : oneR (l.drop i) = (x.2, 2) := (oneM_eq _ hne).symm.trans ((oneM_some (by rw [hg0]; exact h128) hld (by rw [List.length_drop]; omega) (by rw [← hrs]; exact restF_end hge _)).trans (by unfold finO; rw [if_neg (by omega)]))
            exact X_ret [] (Ps := []) (res2 Tryd.results20 rfl rfl) rfl (by decide) ⟨by rw [hs] <;> rfl, rfl⟩
    ·
      simp only [Bool.and_eq_false_iff, decide_eq_false_iff_not] at hc18
      refine W_seq ?_
      refine W.pre (K' := [(0, _), (1, _), (4, _), (5, _), (6, _), (7, _), (8, _), (13, _), (18, _)]) (L' := [(0, _)]) ?_ ⟨rfl, ⟨rfl, ⟨rfl, ⟨rfl, ⟨rfl, ⟨rfl, ⟨rfl, ⟨rfl, ⟨rfl, trivial⟩⟩⟩⟩⟩⟩⟩⟩⟩ ⟨rfl, trivial⟩
      refine W_regL (WL_pure rfl rfl (by decide) (Pu_move rfl rfl) (WL_pure rfl rfl (by decide) (Pu_bin rfl rfl rfl (run_geq _ _ _ _ _ _)) (WL_pure rfl rfl (by decide) (Pu_move rfl rfl) (WL_guardP rfl rfl rfl rfl (by decide) (fun hb => (Pu_move rfl rfl)) (WL_guardP rfl rfl rfl rfl (by decide) (fun hb => (Pu_bin rfl (ev_gv rfl hb) rfl (run_lss _ _ _ _ _ _))) (WL_pure rfl rfl (by decide) (Pu_and rfl rfl rfl) (WL_pure rfl rfl (by decide) (Pu_assign rfl rfl) (WL_nil (X_then ?_)))))))))
      refine W_cond rfl (fun hc28 => ?_) (fun hc28 => ?_)
      ·
        simp only [Bool.and_eq_true, decide_eq_true_eq] at hc28
        refine W.pre (K' := [(0, _), (1, _), (4, _), (5, _), (6, _), (7, _), (8, _), (13, _), (18, _), (28, _)]) (L' := [(0, _)]) ?_ ⟨rfl, ⟨rfl, ⟨rfl, ⟨rfl, ⟨rfl, ⟨rfl, ⟨rfl, ⟨rfl, ⟨rfl, ⟨rfl, trivial⟩⟩⟩⟩⟩⟩⟩⟩⟩⟩ ⟨rfl, trivial⟩
        refine W_regL (WL_pure rfl rfl (by decide) (Pu_move rfl rfl) (WL_pure rfl rfl (by decide) (Pu_bin rfl rfl rfl (run_and15 _ _ _ _)) (WL_pure rfl rfl (by decide) (Pu_conv rfl rfl (conv_small _ (by omega) Tryd.runUnderlying5 Tryd.runUnderlying21)) (WL_pure rfl rfl (by decide) (Pu_assign rfl rfl) (WL_pure rfl rfl (by decide) (Pu_assign rfl rfl) (WL_nil (X_block (X_then ?_))))))))
        refine W_seq ?_
        refine W_seq ?_
        refine W.pre (K' := [(0, _), (1, _), (4, _), (5, _), (6, _), (7, _), (8, _), (13, _), (18, _), (28, _)]) (L' := [(0, _)]) ?_ ⟨rfl, ⟨rfl, ⟨rfl, ⟨rfl, ⟨rfl, ⟨rfl, ⟨rfl, ⟨rfl, ⟨rfl, ⟨rfl, trivial⟩⟩⟩⟩⟩⟩⟩⟩⟩⟩ ⟨rfl, trivial⟩
        have hld : lead ((l.drop i).getD 0 0).toNat = (3, (at0 l i).toNat % 16) := by rw [hg0]; unfold lead; rw [if_neg (by omega), if_pos (by omega)]
        refine W_regL (WL_pure rfl rfl (by decide) (Pu_move rfl rfl) (WL_pure rfl rfl (by decide) (Pu_bin rfl rfl rfl (run_eql _ _ _ _ _ _)) (WL_pure rfl rfl (by decide) (Pu_move rfl rfl) (WL_guardP rfl rfl rfl rfl (by decide) (fun hb => (Pu_move rfl rfl)) (WL_guardP rfl rfl rfl rfl (by decide) (fun hb => (Pu_move rfl rfl)) (WL_guardP rfl rfl rfl rfl (by decide) (fun hb => (Pu_bin rfl (ev_gv rfl hb) (ev_gv rfl hb) (run_add _ _ _ _ _ (by omega)))) (WL_guardP rfl rfl rfl rfl (by decide) (fun hb => (Pu_move rfl rfl)) (WL_guardP rfl rfl rfl rfl (by decide) (fun hb => (Pu_lenStr rfl Tryd.underlying9 (ev_gv rfl hb))) (WL_guardP rfl rfl rfl rfl (by decide) (fun hb => (Pu_bin rfl (ev_gv rfl hb) (ev_gv rfl hb) (run_gtr _ _ _ _ _ _))) (WL_pure rfl rfl (by decide) (Pu_or rfl rfl rfl) (WL_nil (X_then ?_))))))))))))
        refine W_cond rfl (fun hc57 => ?_) (fun hc57 => ?_)
        ·
          have hsh : l.length < i + 3 := by simp only [Bool.or_eq_true, decide_eq_true_eq] at hc57; omega
          refine W_seq ?_
          refine W.pre (K' := [(0, _), (1, _), (4, _), (5, _), (6, _), (7, _), (8, _), (13, _), (18, _), (28, _), (57, _)]) (L' := [(0, _)]) ?_ ⟨rfl, ⟨rfl, ⟨rfl, ⟨rfl, ⟨rfl, ⟨rfl, ⟨rfl, ⟨rfl, ⟨rfl, ⟨rfl, ⟨rfl, trivial⟩⟩⟩⟩⟩⟩⟩⟩⟩⟩⟩ ⟨rfl, trivial⟩
          refine W_regL (WL_pure rfl rfl (by decide) (Pu_assign rfl rfl) (WL_pure rfl rfl (by decide) (Pu_assign rfl rfl) (WL_nil (X_then ?_))))
          refine W_ret (X_then_ret ?_)
          have hs : oneR (l.drop i) = (0, 0) := (oneM_eq _ hne).symm.trans (oneM_short (by rw [hg0]; exact h128) hld (.inr (by rw [List.length_drop]; omega)))
          exact X_ret [] (Ps := []) (res2 Tryd.results20 rfl rfl) rfl (by decide) ⟨by rw [hs] <;> rfl, rfl⟩
        ·
          have hsh : i + 3 ≤ l.length := by simp only [Bool.or_eq_false_iff, decide_eq_false_iff_not] at hc57; omega
          refine W_skip (X_then ?_)
          refine W_seq ?_
          refine W_seq ?_
          refine W.pre (K' := [(0, _), (1, _), (4, _), (5, _), (6, _), (7, _), (8, _), (13, _), (18, _), (28, _), (57, _)]) (L' := [(0, _)]) ?_ ⟨rfl, ⟨rfl, ⟨rfl, ⟨rfl, ⟨rfl, ⟨rfl, ⟨rfl, ⟨rfl, ⟨rfl, ⟨rfl, ⟨rfl, trivial⟩⟩⟩⟩⟩⟩⟩⟩⟩⟩⟩ ⟨rfl, trivial⟩
          refine W_regL (WL_pure rfl rfl (by decide) (Pu_assign rfl rfl) (WL_nil (X_then ?_)))
          refine W_block ?_
          refine W_loop (α := Nat × Nat) (fun x => [(0, sV l), (1, .int .i64 (i : Int)), (7, .int .i64 3), (8, .int .i32 (x.2 : Int)), (9, .int .i64 (x.1 : Int))]) (fun x => [(0, F)]) (fun x => restF (l.drop i) 3 (5 - x.1) x.1 x.2 = restF (l.drop i) 3 4 1 ((at0 l i).toNat % 16) ∧ ((x.1 = 1 ∧ x.2 < 32) ∨ (x.1 = 2 ∧ x.2 < 2048) ∨ (x.1 = 3 ∧ x.2 < 131072) ∨ (x.1 = 4 ∧ x.2 < 8388608)) ∧ x.1 ≤ 3) (fun x => 3 - x.1) ((1, (at0 l i).toNat % 16)) ⟨rfl, .inl ⟨rfl, by dsimp only; omega⟩, by dsimp only; omega⟩ ⟨rfl, ⟨rfl, ⟨rfl, ⟨rfl, ⟨rfl, trivial⟩⟩⟩⟩⟩ ⟨rfl, trivial⟩ (fun x hx => ?_)
          obtain ⟨hrs, hbd, hxn⟩ := hx
          refine W_seq ?_
          refine W_seq ?_
          refine W.pre (K' := [(0, _), (1, _), (7, _), (8, _), (9, _)]) (L' := [(0, _)]) ?_ ⟨rfl, ⟨rfl, ⟨rfl, ⟨rfl, ⟨rfl, trivial⟩⟩⟩⟩⟩ ⟨rfl, trivial⟩
          refine W_regL (WL_pure rfl rfl (by decide) (Pu_move rfl rfl) (WL_pure rfl rfl (by decide) (Pu_move rfl rfl) (WL_pure rfl rfl (by decide) (Pu_bin rfl rfl rfl (run_lss _ _ _ _ _ _)) (WL_nil (X_then ?_)))))
          refine W_cond rfl (fun hc60 => ?_) (fun hc60 => ?_)
          ·
            have hlt : x.1 < 3 := by have := of_decide_eq_true hc60; omega
            refine W_skip (X_then ?_)
            refine W_seq ?_
            refine W_block ?_
            refine W_seq ?_
            refine W_seq ?_
            refine W.pre (K' := [(0, _), (1, _), (7, _), (8, _), (9, _), (60, _)]) (L' := [(0, _)]) ?_ ⟨rfl, ⟨rfl, ⟨rfl, ⟨rfl, ⟨rfl, ⟨rfl, trivial⟩⟩⟩⟩⟩⟩ ⟨rfl, trivial⟩
            refine W_regL (WL_pure rfl rfl (by decide) (Pu_move rfl rfl) (WL_pure rfl rfl (by decide) (Pu_move rfl rfl) (WL_pure rfl rfl (by decide) (Pu_move rfl rfl) (WL_pure rfl rfl (by decide) (Pu_bin rfl rfl rfl (run_add _ _ _ _ _ (by omega))) (WL_pure rfl rfl (by decide) (Pu_idxStrN (i + x.1) rfl Tryd.underlying9 rfl rfl (by omega) (by omega)) (WL_pure rfl rfl (by decide) (Pu_bin rfl rfl rfl (run_and192 _ _ _ _)) (WL_pure rfl rfl (by decide) (Pu_bin rfl rfl rfl (run_neq _ _ _ _ _ _)) (WL_nil (X_then ?_)))))))))
            refine W_cond rfl (fun hc69 => ?_) (fun hc69 => ?_)
            ·
              have h2 : ¬ (at0 l (i + x.1)).toNat / 64 = 2 := by simp at hc69; omega
              refine W_seq ?_
              refine W.pre (K' := [(0, _), (1, _), (7, _), (8, _), (9, _), (60, _), (69, _)]) (L' := [(0, _)]) ?_ ⟨rfl, ⟨rfl, ⟨rfl, ⟨rfl, ⟨rfl, ⟨rfl, ⟨rfl, trivial⟩⟩⟩⟩⟩⟩⟩ ⟨rfl, trivial⟩
              refine W_regL (WL_pure rfl rfl (by decide) (Pu_assign rfl rfl) (WL_pure rfl rfl (by decide) (Pu_assign rfl rfl) (WL_nil (X_then ?_))))
              refine W_ret (X_then_ret (X_block_ret (X_then_ret (X_then_ret (X_block_ret (X_then_ret ?_))))))
              have hs : oneR (l.drop i) = (0, 0) := (oneM_eq _ hne).symm.trans (oneM_none (by rw [hg0]; exact h128) hld (by rw [List.length_drop]; omega) (by rw [← hrs, show 5 - x.1 = (4 - x.1) + 1 by omega]; exact restF_bad hlt (by rw [at0_drop]; exact h2)))
              exact X_ret [] (Ps := []) (res2 Tryd.results20 rfl rfl) rfl (by decide) ⟨by rw [hs] <;> rfl, rfl⟩
            ·
              have h2 : (at0 l (i + x.1)).toNat / 64 = 2 := by simp at hc69; omega
              refine W_skip (X_then ?_)
              refine W.pre (K' := [(0, _), (1, _), (7, _), (8, _), (9, _), (60, _), (69, _)]) (L' := [(0, _)]) ?_ ⟨rfl, ⟨rfl, ⟨rfl, ⟨rfl, ⟨rfl, ⟨rfl, ⟨rfl, trivial⟩⟩⟩⟩⟩⟩⟩ ⟨rfl, trivial⟩
              refine W_regL (WL_pure rfl rfl (by decide) (Pu_move rfl rfl) (WL_pure rfl rfl (by decide) (Pu_bin rfl rfl rfl (run_shl6 _ _ _ _ (by omega))) (WL_pure rfl rfl (by decide) (Pu_move rfl rfl) (WL_pure rfl rfl (by decide) (Pu_move rfl rfl) (WL_pure rfl rfl (by decide) (Pu_move rfl rfl) (WL_pure rfl rfl (by decide) (Pu_bin rfl rfl rfl (run_add _ _ _ _ _ (by omega))) (WL_pure rfl rfl (by decide) (Pu_idxStrN (i + x.1) rfl Tryd.underlying9 rfl rfl (by omega) (by omega)) (WL_pure rfl rfl (by decide) (Pu_bin rfl rfl rfl (run_and63 _ _ _ _)) (WL_pure rfl rfl (by decide) (Pu_conv rfl rfl (conv_small _ (by omega) Tryd.runUnderlying5 Tryd.runUnderlying21)) (WL_pure rfl rfl (by decide) (Pu_bin rfl rfl rfl (run_or6 _ _ (by omega) (by omega) _ _ _)) (WL_pure rfl rfl (by decide) (Pu_assign rfl rfl) (WL_nil (X_block (X_then ?_))))))))))))))
              refine W.pre (K' := [(0, _), (1, _), (7, _), (8, _), (9, _), (60, _), (69, _)]) (L' := [(0, _)]) ?_ ⟨rfl, ⟨rfl, ⟨rfl, ⟨rfl, ⟨rfl, ⟨rfl, ⟨rfl, trivial⟩⟩⟩⟩⟩⟩⟩ ⟨rfl, trivial⟩
              refine W_regL (WL_pure rfl rfl (by decide) (Pu_move rfl rfl) (WL_pure rfl rfl (by decide) (Pu_bin rfl rfl rfl (run_add _ _ _ _ _ (by omega))) (WL_pure rfl rfl (by decide) (Pu_assign rfl rfl) (WL_nil ?_))))
              exact X_round (x.1 + 1, x.2 * 64 + (at0 l (i + x.1)).toNat % 64) ⟨by rw [← hrs, show 5 - x.1 = (4 - x.1) + 1 by omega, restF_ok hlt (by rw [at0_drop]; exact h2), at0_drop]; dsimp only; rw [show 5 - (x.1 + 1) = 4 - x.1 by omega], by dsimp only; omega, by dsimp only; omega⟩ (by dsimp only; omega) ⟨rfl, rfl, rfl, rfl, rfl, trivial⟩ ⟨rfl, trivial⟩
          ·
            have hge : 3 ≤ x.1 := by have := of_decide_eq_false hc60; omega
            refine W_exit (X_then_exit (X_then_exit (X_block_exit (X_then ?_))))
            refine W_seq ?_
            refine W_seq ?_
            refine W.pre (K' := [(0, _), (1, _), (7, _), (8, _), (9, _), (60, _)]) (L' := [(0, _)]) ?_ ⟨rfl, ⟨rfl, ⟨rfl, ⟨rfl, ⟨rfl, ⟨rfl, trivial⟩⟩⟩⟩⟩⟩ ⟨rfl, trivial⟩
            refine W_regL (WL_pure rfl rfl (by decide) (Pu_move rfl rfl) (WL_pure rfl rfl (by decide) (Pu_bin rfl rfl rfl (run_gtr _ _ _ _ _ _)) (WL_pure rfl rfl (by decide) (Pu_move rfl rfl) (WL_guardP rfl rfl rfl rfl (by decide) (fun hb => (Pu_move rfl rfl)) (WL_guardP rfl rfl rfl rfl (by decide) (fun hb => (Pu_bin rfl (ev_gv rfl hb) rfl (run_geq _ _ _ _ _ _))) (WL_guardP rfl rfl rfl rfl (by decide) (fun hb => (Pu_move rfl (ev_gv rfl hb))) (WL_guardP2 rfl rfl rfl rfl (by decide) (fun hb => (Pu_move rfl rfl)) (WL_guardP2 rfl rfl rfl rfl (by decide) (fun hb => (Pu_bin rfl (ev_gv rfl hb) rfl (run_leq _ _ _ _ _ _))) (WL_guardP rfl rfl rfl rfl (by decide) (fun hb => (Pu_and2 hb rfl (ev_gv rfl hb) rfl)) (WL_pure rfl rfl (by decide) (Pu_or rfl rfl rfl) (WL_pure rfl rfl (by decide) (Pu_move rfl rfl) (WL_guardP rfl rfl rfl rfl (by decide) (fun hb => (Pu_move rfl rfl)) (WL_guardP rfl rfl rfl rfl (by decide) (fun hb => (Pu_bin rfl (ev_gv rfl hb) rfl (run_eql _ _ _ _ _ _))) (WL_guardP rfl rfl rfl rfl (by decide) (fun hb => (Pu_move rfl (ev_gv rfl hb))) (WL_guardP2 rfl rfl rfl rfl (by decide) (fun hb => (Pu_move rfl rfl)) (WL_guardP2 rfl rfl rfl rfl (by decide) (fun hb => (Pu_bin rfl (ev_gv rfl hb) rfl (run_lss _ _ _ _ _ _))) (WL_guardP rfl rfl rfl rfl (by decide) (fun hb => (Pu_and2 hb rfl (ev_gv rfl hb) rfl)) (WL_pure rfl rfl (by decide) (Pu_or rfl rfl rfl) (WL_pure rfl rfl (by decide) (Pu_move rfl rfl) (WL_guardP rfl rfl rfl rfl (by decide) (fun hb => (Pu_move rfl rfl)) (WL_guardP rfl rfl rfl rfl (by decide) (fun hb => (Pu_bin rfl (ev_gv rfl hb) rfl (run_eql _ _ _ _ _ _))) (WL_guardP rfl rfl rfl rfl (by decide) (fun hb => (Pu_move rfl (ev_gv rfl hb))) (WL_guardP2 rfl rfl rfl rfl (by decide) (fun hb => (Pu_move rfl rfl)) (WL_guardP2 rfl rfl rfl rfl (by decide) (fun hb => (Pu_bin rfl (ev_gv rfl hb) rfl (run_lss _ _ _ _ _ _))) (WL_guardP rfl rfl rfl rfl (by decide) (fun hb => (Pu_and2 hb rfl (ev_gv rfl hb) rfl)) (WL_pure rfl rfl (by decide) (Pu_or rfl rfl rfl) (WL_pure rfl rfl (by decide) (Pu_move rfl rfl) (WL_guardP rfl rfl rfl rfl (by decide) (fun hb => (Pu_move rfl rfl)) (WL_guardP rfl rfl rfl rfl (by decide) (fun hb => (Pu_bin rfl (ev_gv rfl hb) rfl (run_eql _ _ _ _ _ _))) (WL_guardP rfl rfl rfl rfl (by decide) (fun hb => (Pu_move rfl (ev_gv rfl hb))) (WL_guardP2 rfl rfl rfl rfl (by decide) (fun hb => (Pu_move rfl rfl)) (WL_guardP2 rfl rfl rfl rfl (by decide) (fun hb => (Pu_bin rfl (ev_gv rfl hb) rfl (run_lss _ _ _ _ _ _))) (WL_guardP rfl rfl rfl rfl (by decide) (fun hb => (Pu_and2 hb rfl (ev_gv rfl hb) rfl)) (WL_pure rfl rfl (by decide) (Pu_or rfl rfl rfl) (WL_nil (X_then ?_))))))))))))))))))))))))))))))))))))
            refine W_cond rfl (fun hc113 => ?_) (fun hc113 => ?_)
            ·
              simp only [Bool.or_eq_true, Bool.and_eq_true, decide_eq_true_eq, true_and] at hc113
              refine W_seq ?_
              refine W.pre (K' := [(0, _), (1, _), (7, _), (8, _), (9, _), (60, _), (113, _)]) (L' := [(0, _)]) ?_ ⟨rfl, ⟨rfl, ⟨rfl, ⟨rfl, ⟨rfl, ⟨rfl, ⟨rfl, trivial⟩⟩⟩⟩⟩⟩⟩ ⟨rfl, trivial⟩
              refine W_regL (WL_pure rfl rfl (by decide) (Pu_assign rfl rfl) (WL_pure rfl rfl (by decide) (Pu_assign rfl rfl) (WL_nil (X_then ?_))))
              refine W_ret (X_then_ret ?_)
              have hs : oneR (l.drop i) = (0, 0) := (oneM_eq _ hne).symm.trans ((oneM_some (by rw [hg0]; exact h128) hld (by rw [List.length_drop]; omega) (by rw [← hrs]; exact restF_end hge _)).trans (by unfold finO; rw [if_pos (by omega)]))
              exact X_ret [] (Ps := []) (res2 Tryd.results20 rfl rfl) rfl (by decide) ⟨by rw [hs] <;> rfl, rfl⟩
            ·
              simp only [Bool.or_eq_false_iff, Bool.and_eq_false_iff, decide_eq_false_iff_not, not_true_eq_false, false_or] at hc113
              refine W_skip (X_then ?_)
              refine W_seq ?_
              refine W.pre (K' := [(0, _), (1, _), (7, _), (8, _), (9, _), (60, _), (113, _)]) (L' := [(0, _)]) ?_ ⟨rfl, ⟨rfl, ⟨rfl, ⟨rfl, ⟨rfl, ⟨rfl, ⟨rfl, trivial⟩⟩⟩⟩⟩⟩⟩ ⟨rfl, trivial⟩
              refine W_regL (WL_pure rfl rfl (by decide) (Pu_move rfl rfl) (WL_pure rfl rfl (by decide) (Pu_move rfl rfl) (WL_pure rfl rfl (by decide) (Pu_assign rfl rfl) (WL_pure rfl rfl (by decide) (Pu_assign rfl rfl) (WL_nil (X_then ?_))))))
              refine W_ret ?_
              have hs : oneR (l.drop i) = (x.2, 3) := (oneM_eq _ hne).symm.trans ((oneM_some (by rw [hg0]; exact h128) hld (by rw [List.length_drop]; omega) (by rw [← hrs]; exact restF_end hge _)).trans (by unfold finO; rw [if_neg (by omega)]))
              exact X_ret [] (Ps := []) (res2 Tryd.results20 rfl rfl) rfl (by decide) ⟨by rw [hs] <;> rfl, rfl⟩
      ·
        simp only [Bool.and_eq_false_iff, decide_eq_false_iff_not] at hc28
        refine W_seq ?_
        refine W.pre (K' := [(0, _), (1, _), (4, _), (5, _), (6, _), (7, _), (8, _), (13, _), (18, _), (28, _)]) (L' := [(0, _)]) ?_ ⟨rfl, ⟨rfl, ⟨rfl, ⟨rfl, ⟨rfl, ⟨rfl, ⟨rfl, ⟨rfl, ⟨rfl, ⟨rfl, trivial⟩⟩⟩⟩⟩⟩⟩⟩⟩⟩ ⟨rfl, trivial⟩
        refine W_regL (WL_pure rfl rfl (by decide) (Pu_move rfl rfl) (WL_pure rfl rfl (by decide) (Pu_bin rfl rfl rfl (run_geq _ _ _ _ _ _)) (WL_pure rfl rfl (by decide) (Pu_move rfl rfl) (WL_guardP rfl rfl rfl rfl (by decide) (fun hb => (Pu_move rfl rfl)) (WL_guardP rfl rfl rfl rfl (by decide) (fun hb => (Pu_bin rfl (ev_gv rfl hb) rfl (run_lss _ _ _ _ _ _))) (WL_pure rfl rfl (by decide) (Pu_and rfl rfl rfl) (WL_pure rfl rfl (by decide) (Pu_assign rfl rfl) (WL_nil (X_then ?_)))))))))
        refine W_cond rfl (fun hc38 => ?_) (fun hc38 => ?_)
        ·
          simp only [Bool.and_eq_true, decide_eq_true_eq] at hc38
          refine W.pre (K' := [(0, _), (1, _), (4, _), (5, _), (6, _), (7, _), (8, _), (13, _), (18, _), (28, _), (38, _)]) (L' := [(0, _)]) ?_ ⟨rfl, ⟨rfl, ⟨rfl, ⟨rfl, ⟨rfl, ⟨rfl, ⟨rfl, ⟨rfl, ⟨rfl, ⟨rfl, ⟨rfl, trivial⟩⟩⟩⟩⟩⟩⟩⟩⟩⟩⟩ ⟨rfl, trivial⟩
          refine W_regL (WL_pure rfl rfl (by decide) (Pu_move rfl rfl) (WL_pure rfl rfl (by decide) (Pu_bin rfl rfl rfl (run_and7 _ _ _ _)) (WL_pure rfl rfl (by decide) (Pu_conv rfl rfl (conv_small _ (by omega) Tryd.runUnderlying5 Tryd.runUnderlying21)) (WL_pure rfl rfl (by decide) (Pu_assign rfl rfl) (WL_pure rfl rfl (by decide) (Pu_assign rfl rfl) (WL_nil (X_block (X_then ?_))))))))
          refine W_seq ?_
          refine W_seq ?_
          refine W.pre (K' := [(0, _), (1, _), (4, _), (5, _), (6, _), (7, _), (8, _), (13, _), (18, _), (28, _), (38, _)]) (L' := [(0, _)]) ?_ ⟨rfl, ⟨rfl, ⟨rfl, ⟨rfl, ⟨rfl, ⟨rfl, ⟨rfl, ⟨rfl, ⟨rfl, ⟨rfl, ⟨rfl, trivial⟩⟩⟩⟩⟩⟩⟩⟩⟩⟩⟩ ⟨rfl, trivial⟩
          have hld : lead ((l.drop i).getD 0 0).toNat = (4, (at0 l i).toNat % 8) := by rw [hg0]; unfold lead; rw [if_neg (by omega), if_neg (by omega), if_pos (by omega)]
          refine W_regL (WL_pure rfl rfl (by decide) (Pu_move rfl rfl) (WL_pure rfl rfl (by decide) (Pu_bin rfl rfl rfl (run_eql _ _ _ _ _ _)) (WL_pure rfl rfl (by decide) (Pu_move rfl rfl) (WL_guardP rfl rfl rfl rfl (by decide) (fun hb => (Pu_move rfl rfl)) (WL_guardP rfl rfl rfl rfl (by decide) (fun hb => (Pu_move rfl rfl)) (WL_guardP rfl rfl rfl rfl (by decide) (fun hb => (Pu_bin rfl (ev_gv rfl hb) (ev_gv rfl hb) (run_add _ _ _ _ _ (by omega)))) (WL_guardP rfl rfl rfl rfl (by decide) (fun hb => (Pu_move rfl rfl)) (WL_guardP rfl rfl rfl rfl (by decide) (fun hb => (Pu_lenStr rfl Tryd.underlying9 (ev_gv rfl hb))) (WL_guardP rfl rfl rfl rfl (by decide) (fun hb => (Pu_bin rfl (ev_gv rfl hb) (ev_gv rfl hb) (run_gtr _ _ _ _ _ _))) (WL_pure rfl rfl (by decide) (Pu_or rfl rfl rfl) (WL_nil (X_then ?_))))))))))))
          refine W_cond rfl (fun hc57 => ?_) (fun hc57 => ?_)
          ·
            have hsh : l.length < i + 4 := by simp only [Bool.or_eq_true, decide_eq_true_eq] at hc57; omega
            refine W_seq ?_
            refine W.pre (K' := [(0, _), (1, _), (4, _), (5, _), (6, _), (7, _), (8, _), (13, _), (18, _), (28, _), (38, _), (57, _)]) (L' := [(0, _)]) ?_ ⟨rfl, ⟨rfl, ⟨rfl, ⟨rfl, ⟨rfl, ⟨rfl, ⟨rfl, ⟨rfl, ⟨rfl, ⟨rfl, ⟨rfl, ⟨rfl, trivial⟩⟩⟩⟩⟩⟩⟩⟩⟩⟩⟩⟩ ⟨rfl, trivial⟩
            refine W_regL (WL_pure rfl rfl (by decide) (Pu_assign rfl rfl) (WL_pure rfl rfl (by decide) (Pu_assign rfl rfl) (WL_nil (X_then ?_))))
            refine W_ret (X_then_ret ?_)
            have hs : oneR (l.drop i) = (0, 0) := (oneM_eq _ hne).symm.trans (oneM_short (by rw [hg0]; exact h128) hld (.inr (by rw [List.length_drop]; omega)))
            exact X_ret [] (Ps := []) (res2 Tryd.results20 rfl rfl) rfl (by decide) ⟨by rw [hs] <;> rfl, rfl⟩
          ·
            have hsh : i + 4 ≤ l.length := by simp only [Bool.or_eq_false_iff, decide_eq_false_iff_not] at hc57; omega
            refine W_skip (X_then ?_)
            refine W_seq ?_
            refine W_seq ?_
            refine W.pre (K' := [(0, _), (1, _), (4, _), (5, _), (6, _), (7, _), (8, _), (13, _), (18, _), (28, _), (38, _), (57, _)]) (L' := [(0, _)]) ?_ ⟨rfl, ⟨rfl, ⟨rfl, ⟨rfl, ⟨rfl, ⟨rfl, ⟨rfl, ⟨rfl, ⟨rfl, ⟨rfl, ⟨rfl, ⟨rfl, trivial⟩⟩⟩⟩⟩⟩⟩⟩⟩⟩⟩⟩ ⟨rfl, trivial⟩
            refine W_regL (WL_pure rfl rfl (by decide) (Pu_assign rfl rfl) (WL_nil (X_then ?_)))
            refine W_block ?_
            refine W_loop (α := Nat × Nat) (fun x => [(0, sV l), (1, .int .i64 (i : Int)), (7, .int .i64 4), (8, .int .i32 (x.2 : Int)), (9, .int .i64 (x.1 : Int))]) (fun x => [(0, F)]) (fun x => restF (l.drop i) 4 (5 - x.1) x.1 x.2 = restF (l.drop i) 4 4 1 ((at0 l i).toNat % 8) ∧ ((x.1 = 1 ∧ x.2 < 32) ∨ (x.1 = 2 ∧ x.2 < 2048) ∨ (x.1 = 3 ∧ x.2 < 131072) ∨ (x.1 = 4 ∧ x.2 < 8388608)) ∧ x.1 ≤ 4) (fun x => 4 - x.1) ((1, (at0 l i).toNat % 8)) ⟨rfl, .inl ⟨rfl, by dsimp only; omega⟩, by dsimp only; omega⟩ ⟨rfl, ⟨rfl, ⟨rfl, ⟨rfl, ⟨rfl, trivial⟩⟩⟩⟩⟩ ⟨rfl, trivial⟩ (fun x hx => ?_)
            obtain ⟨hrs, hbd, hxn⟩ := hx
            refine W_seq ?_
            refine W_seq ?_
            refine W.pre (K' := [(0, _), (1, _), (7, _), (8, _), (9, _)]) (L' := [(0, _)]) ?_ ⟨rfl, ⟨rfl, ⟨rfl, ⟨rfl, ⟨rfl, trivial⟩⟩⟩⟩⟩ ⟨rfl, trivial⟩
            refine W_regL (WL_pure rfl rfl (by decide) (Pu_move rfl rfl) (WL_pure rfl rfl (by decide) (Pu_move rfl rfl) (WL_pure rfl rfl (by decide) (Pu_bin rfl rfl rfl (run_lss _ _ _ _ _ _)) (WL_nil (X_then ?_)))))
            refine W_cond rfl (fun hc60 => ?_) (fun hc60 => ?_)
            ·
              have hlt : x.1 < 4 := by have := of_decide_eq_true hc60; omega
              refine W_skip (X_then ?_)
              refine W_seq ?_
              refine W_block ?_
              refine W_seq ?_
              refine W_seq ?_
              refine W.pre (K' := [(0, _), (1, _), (7, _), (8, _), (9, _), (60, _)]) (L' := [(0, _)]) ?_ ⟨rfl, ⟨rfl, ⟨rfl, ⟨rfl, ⟨rfl, ⟨rfl, trivial⟩⟩⟩⟩⟩⟩ ⟨rfl, trivial⟩
              refine W_regL (WL_pure rfl rfl (by decide) (Pu_move rfl rfl) (WL_pure rfl rfl (by decide) (Pu_move rfl rfl) (WL_pure rfl rfl (by decide) (Pu_move rfl rfl) (WL_pure rfl rfl (by decide) (Pu_bin rfl rfl rfl (run_add _ _ _ _ _ (by omega))) (WL_pure rfl rfl (by decide) (Pu_idxStrN (i + x.1) rfl Tryd.underlying9 rfl rfl (by omega) (by omega)) (WL_pure rfl rfl (by decide) (Pu_bin rfl rfl rfl (run_and192 _ _ _ _)) (WL_pure rfl rfl (by decide) (Pu_bin rfl rfl rfl (run_neq _ _ _ _ _ _)) (WL_nil (X_then ?_)))))))))
              refine W_cond rfl (fun hc69 => ?_) (fun hc69 => ?_)
              ·
                have h2 : ¬ (at0 l (i + x.1)).toNat / 64 = 2 := by simp at hc69; omega
                refine W_seq ?_
                refine W.pre (K' := [(0, _), (1, _), (7, _), (8, _), (9, _), (60, _), (69, _)]) (L' := [(0, _)]) ?_ ⟨rfl, ⟨rfl, ⟨rfl, ⟨rfl, ⟨rfl, ⟨rfl, ⟨rfl, trivial⟩⟩⟩⟩⟩⟩⟩ ⟨rfl, trivial⟩
                refine W_regL (WL_pure rfl rfl (by decide) (Pu_assign rfl rfl) (WL_pure rfl rfl (by decide) (Pu_assign rfl rfl) (WL_nil (X_then ?_))))
                refine W_ret (X_then_ret (X_block_ret (X_then_ret (X_then_ret (X_block_ret (X_then_ret ?_))))))
                have hs : oneR (l.drop i) = (0, 0) := (oneM_eq _ hne).symm.trans (oneM_none (by rw [hg0]; exact h128) hld (by rw [List.length_drop]; omega) (by rw [← hrs, show 5 - x.1 = (4 - x.1) + 1 by omega]; exact restF_bad hlt (by rw [at0_drop]; exact h2)))
                exact X_ret [] (Ps := []) (res2 Tryd.results20 rfl rfl) rfl (by decide) ⟨by rw [hs] <;> rfl, rfl⟩
              ·
                have h2 : (at0 l (i + x.1)).toNat / 64 = 2 := by simp at hc69; omega
                refine W_skip (X_then ?_)
                refine W.pre (K' := [(0, _), (1, _), (7, _), (8, _), (9, _), (60, _), (69, _)]) (L' := [(0, _)]) ?_ ⟨rfl, ⟨rfl, ⟨rfl, ⟨rfl, ⟨rfl, ⟨rfl, ⟨rfl, trivial⟩⟩⟩⟩⟩⟩⟩ ⟨rfl, trivial⟩
                refine W_regL (WL_pure rfl rfl (by decide) (Pu_move rfl rfl) (WL_pure rfl rfl (by decide) (Pu_bin rfl rfl rfl (run_shl6 _ _ _ _ (by omega))) (WL_pure rfl rfl (by decide) (Pu_move rfl rfl) (WL_pure rfl rfl (by decide) (Pu_move rfl rfl) (WL_pure rfl rfl (by decide) (Pu_move rfl rfl) (WL_pure rfl rfl (by decide) (Pu_bin rfl rfl rfl (run_add _ _ _ _ _ (by omega))) (WL_pure rfl rfl (by decide) (Pu_idxStrN (i + x.1) rfl Tryd.underlying9 rfl rfl (by omega) (by omega)) (WL_pure rfl rfl (by decide) (Pu_bin rfl rfl rfl (run_and63 _ _ _ _)) (WL_pure rfl rfl (by decide) (Pu_conv rfl rfl (conv_small _ (by omega) Tryd.runUnderlying5 Tryd.runUnderlying21)) (WL_pure rfl rfl (by decide) (Pu_bin rfl rfl rfl (run_or6 _ _ (by omega) (by omega) _ _ _)) (WL_pure rfl rfl (by decide) (Pu_assign rfl rfl) (WL_nil (X_block (X_then ?_))))))))))))))
                refine W.pre (K' := [(0, _), (1, _), (7, _), (8, _), (9, _), (60, _), (69, _)]) (L' := [(0, _)]) ?_ ⟨rfl, ⟨rfl, ⟨rfl, ⟨rfl, ⟨rfl, ⟨rfl, ⟨rfl, trivial⟩⟩⟩⟩⟩⟩⟩ ⟨rfl, trivial⟩
                refine W_regL (WL_pure rfl rfl (by decide) (Pu_move rfl rfl) (WL_pure rfl rfl (by decide) (Pu_bin rfl rfl rfl (run_add _ _ _ _ _ (by omega))) (WL_pure rfl rfl (by decide) (Pu_assign rfl rfl) (WL_nil ?_))))
                exact X_round (x.1 + 1, x.2 * 64 + (at0 l (i + x.1)).toNat % 64) ⟨by rw [← hrs, show 5 - x.1 = (4 - x.1) + 1 by omega, restF_ok hlt (by rw [at0_drop]; exact h2), at0_drop]; dsimp only; rw [show 5 - (x.1 + 1) = 4 - x.1 by omega], by dsimp only; omega, by dsimp only; omega⟩ (by dsimp only; omega) ⟨rfl, rfl, rfl, rfl, rfl, trivial⟩ ⟨rfl, trivial⟩
            ·
              have hge : 4 ≤ x.1 := by have := of_decide_eq_false hc60; omega
              refine W_exit (X_then_exit (X_then_exit (X_block_exit (X_then ?_))))
              refine W_seq ?_
              refine W_seq ?_
              refine W.pre (K' := [(0, _), (1, _), (7, _), (8, _), (9, _), (60, _)]) (L' := [(0, _)]) ?_ ⟨rfl, ⟨rfl, ⟨rfl, ⟨rfl, ⟨rfl, ⟨rfl, trivial⟩⟩⟩⟩⟩⟩ ⟨rfl, trivial⟩
              refine W_regL (WL_pure rfl rfl (by decide) (Pu_move rfl rfl) (WL_pure rfl rfl (by decide) (Pu_bin rfl rfl rfl (run_gtr _ _ _ _ _ _)) (WL_pure rfl rfl (by decide) (Pu_move rfl rfl) (WL_guardP rfl rfl rfl rfl (by decide) (fun hb => (Pu_move rfl rfl)) (WL_guardP rfl rfl rfl rfl (by decide) (fun hb => (Pu_bin rfl (ev_gv rfl hb) rfl (run_geq _ _ _ _ _ _))) (WL_guardP rfl rfl rfl rfl (by decide) (fun hb => (Pu_move rfl (ev_gv rfl hb))) (WL_guardP2 rfl rfl rfl rfl (by decide) (fun hb => (Pu_move rfl rfl)) (WL_guardP2 rfl rfl rfl rfl (by decide) (fun hb => (Pu_bin rfl (ev_gv rfl hb) rfl (run_leq _ _ _ _ _ _))) (WL_guardP rfl rfl rfl rfl (by decide) (fun hb => (Pu_and2 hb rfl (ev_gv rfl hb) rfl)) (WL_pure rfl rfl (by decide) (Pu_or rfl rfl rfl) (WL_pure rfl rfl (by decide) (Pu_move rfl rfl) (WL_guardP rfl rfl rfl rfl (by decide) (fun hb => (Pu_move rfl rfl)) (WL_guardP rfl rfl rfl rfl (by decide) (fun hb => (Pu_bin rfl (ev_gv rfl hb) rfl (run_eql _ _ _ _ _ _))) (WL_guardP rfl rfl rfl rfl (by decide) (fun hb => (Pu_move rfl (ev_gv rfl hb))) (WL_guardP2 rfl rfl rfl rfl (by decide) (fun hb => (Pu_move rfl rfl)) (WL_guardP2 rfl rfl rfl rfl (by decide) (fun hb => (Pu_bin rfl (ev_gv rfl hb) rfl (run_lss _ _ _ _ _ _))) (WL_guardP rfl rfl rfl rfl (by decide) (fun hb => (Pu_and2 hb rfl (ev_gv rfl hb) rfl)) (WL_pure rfl rfl (by decide) (Pu_or rfl rfl rfl) (WL_pure rfl rfl (by decide) (Pu_move rfl rfl) (WL_guardP rfl rfl rfl rfl (by decide) (fun hb => (Pu_move rfl rfl)) (WL_guardP rfl rfl rfl rfl (by decide) (fun hb => (Pu_bin rfl (ev_gv rfl hb) rfl (run_eql _ _ _ _ _ _))) (WL_guardP rfl rfl rfl rfl (by decide) (fun hb => (Pu_move rfl (ev_gv rfl hb))) (WL_guardP2 rfl rfl rfl rfl (by decide) (fun hb => (Pu_move rfl rfl)) (WL_guardP2 rfl rfl rfl rfl (by decide) (fun hb => (Pu_bin rfl (ev_gv rfl hb) rfl (run_lss _ _ _ _ _ _))) (WL_guardP rfl rfl rfl rfl (by decide) (fun hb => (Pu_and2 hb rfl (ev_gv rfl hb) rfl)) (WL_pure rfl rfl (by decide) (Pu_or rfl rfl rfl) (WL_pure rfl rfl (by decide) (Pu_move rfl rfl) (WL_guardP rfl rfl rfl rfl (by decide) (fun hb => (Pu_move rfl rfl)) (WL_guardP rfl rfl rfl rfl (by decide) (fun hb => (Pu_bin rfl (ev_gv rfl hb) rfl (run_eql _ _ _ _ _ _))) (WL_guardP rfl rfl rfl rfl (by decide) (fun hb => (Pu_move rfl (ev_gv rfl hb))) (WL_guardP2 rfl rfl rfl rfl (by decide) (fun hb => (Pu_move rfl rfl)) (WL_guardP2 rfl rfl rfl rfl (by decide) (fun hb => (Pu_bin rfl (ev_gv rfl hb) rfl (run_lss _ _ _ _ _ _))) (WL_guardP rfl rfl rfl rfl (by decide) (fun hb => (Pu_and2 hb rfl (ev_gv rfl hb) rfl)) (WL_pure rfl rfl (by decide) (Pu_or rfl rfl rfl) (WL_nil (X_then ?_))))))))))))))))))))))))))))))))))))
              refine W_cond rfl (fun hc113 => ?_) (fun hc113 => ?_)
              ·
                simp only [Bool.or_eq_true, Bool.and_eq_true, decide_eq_true_eq, true_and] at hc113
                refine W_seq ?_
                refine W.pre (K' := [(0, _), (1, _), (7, _), (8, _), (9, _), (60, _), (113, _)]) (L' := [(0, _)]) ?_ ⟨rfl, ⟨rfl, ⟨rfl, ⟨rfl, ⟨rfl, ⟨rfl, ⟨rfl, trivial⟩⟩⟩⟩⟩⟩⟩ ⟨rfl, trivial⟩
                refine W_regL (WL_pure rfl rfl (by decide) (Pu_assign rfl rfl) (WL_pure rfl rfl (by decide) (Pu_assign rfl rfl) (WL_nil (X_then ?_))))
                refine W_ret (X_then_ret ?_)
                have hs : oneR (l.drop i) = (0, 0) := (oneM_eq _ hne).symm.trans ((oneM_some (by rw [hg0]; exact h128) hld (by rw [List.length_drop]; omega) (by rw [← hrs]; exact restF_end hge _)).trans (by unfold finO; rw [if_pos (by omega)]))
                exact X_ret [] (Ps := []) (res2 Tryd.results20 rfl rfl) rfl (by decide) ⟨by rw [hs] <;> rfl, rfl⟩
              ·
                simp only [Bool.or_eq_false_iff, Bool.and_eq_false_iff, decide_eq_false_iff_not, not_true_eq_false, false_or] at hc113
                refine W_skip (X_then ?_)
                refine W_seq ?_
                refine W.pre (K' := [(0, _), (1, _), (7, _), (8, _), (9, _), (60, _), (113, _)]) (L' := [(0, _)]) ?_ ⟨rfl, ⟨rfl, ⟨rfl, ⟨rfl, ⟨rfl, ⟨rfl, ⟨rfl, trivial⟩⟩⟩⟩⟩⟩⟩ ⟨rfl, trivial⟩
                refine W_regL (WL_pure rfl rfl (by decide) (Pu_move rfl rfl) (WL_pure rfl rfl (by decide) (Pu_move rfl rfl) (WL_pure rfl rfl (by decide) (Pu_assign rfl rfl) (WL_pure rfl rfl (by decide) (Pu_assign rfl rfl) (WL_nil (X_then ?_))))))
                refine W_ret ?_
                have hs : oneR (l.drop i) = (x.2, 4) := (oneM_eq _ hne).symm.trans ((oneM_some (by rw [hg0]; exact h128) hld (by rw [List.length_drop]; omega) (by rw [← hrs]; exact restF_end hge _)).trans (by unfold finO; rw [if_neg (by omega)]))
                exact X_ret [] (Ps := []) (res2 Tryd.results20 rfl rfl) rfl (by decide) ⟨by rw [hs] <;> rfl, rfl⟩
        ·
          simp only [Bool.and_eq_false_iff, decide_eq_false_iff_not] at hc38
          refine W_skip (X_block (X_then ?_))
          refine W_seq ?_
          refine W_seq ?_
          refine W.pre (K' := [(0, _), (1, _), (4, _), (5, _), (6, _), (7, _), (8, _), (13, _), (18, _), (28, _), (38, _)]) (L' := [(0, _)]) ?_ ⟨rfl, ⟨rfl, ⟨rfl, ⟨rfl, ⟨rfl, ⟨rfl, ⟨rfl, ⟨rfl, ⟨rfl, ⟨rfl, ⟨rfl, trivial⟩⟩⟩⟩⟩⟩⟩⟩⟩⟩⟩ ⟨rfl, trivial⟩
          have hld : lead ((l.drop i).getD 0 0).toNat = (0, 0) := by rw [hg0]; unfold lead; rw [if_neg (by omega), if_neg (by omega), if_neg (by omega)]
          refine W_regL (WL_pure rfl rfl (by decide) (Pu_move rfl rfl) (WL_pure rfl rfl (by decide) (Pu_bin rfl rfl rfl (run_eql _ _ _ _ _ _)) (WL_pure rfl rfl (by decide) (Pu_move rfl rfl) (WL_guardP rfl rfl rfl rfl (by decide) (fun hb => (Pu_move rfl rfl)) (WL_guardP rfl rfl rfl rfl (by decide) (fun hb => (Pu_move rfl rfl)) (WL_guardP rfl rfl rfl rfl (by decide) (fun hb => (Pu_bin rfl (ev_gv rfl hb) (ev_gv rfl hb) (run_add _ _ _ _ _ (by omega)))) (WL_guardP rfl rfl rfl rfl (by decide) (fun hb => (Pu_move rfl rfl)) (WL_guardP rfl rfl rfl rfl (by decide) (fun hb => (Pu_lenStr rfl Tryd.underlying9 (ev_gv rfl hb))) (WL_guardP rfl rfl rfl rfl (by decide) (fun hb => (Pu_bin rfl (ev_gv rfl hb) (ev_gv rfl hb) (run_gtr _ _ _ _ _ _))) (WL_pure rfl rfl (by decide) (Pu_or rfl rfl rfl) (WL_nil (X_then ?_))))))))))))
          refine W_true rfl (rfl) ?_
          refine W_seq ?_
          refine W.pre (K' := [(0, _), (1, _), (4, _), (5, _), (6, _), (7, _), (8, _), (13, _), (18, _), (28, _), (38, _), (57, _)]) (L' := [(0, _)]) ?_ ⟨rfl, ⟨rfl, ⟨rfl, ⟨rfl, ⟨rfl, ⟨rfl, ⟨rfl, ⟨rfl, ⟨rfl, ⟨rfl, ⟨rfl, ⟨rfl, trivial⟩⟩⟩⟩⟩⟩⟩⟩⟩⟩⟩⟩ ⟨rfl, trivial⟩
          refine W_regL (WL_pure rfl rfl (by decide) (Pu_assign rfl rfl) (WL_pure rfl rfl (by decide) (Pu_assign rfl rfl) (WL_nil (X_then ?_))))
          refine W_ret (X_then_ret ?_)
          have hs : oneR (l.drop i) = (0, 0) := (oneM_eq _ hne).symm.trans (oneM_short (by rw [hg0]; exact h128) hld (.inl rfl))
          exact X_ret [] (Ps := []) (res2 Tryd.results20 rfl rfl) rfl (by decide) ⟨by rw [hs] <;> rfl, rfl⟩
theorem check_rspec (l : List UInt8) (hl : l.length ≤ 140737488355328) (F : HP) : CallsS Tryd.prog 12 #[sV l] F [] (fun v Ps => v = .int .i64 (checkN l : Int) ∧ Ps = []) := by
  refine callsS_enter Tryd.func12 rfl Tryd.ntmps12 (by simp) (fun E => ?_)
  refine W_seq ?_
  refine W.pre (K' := [(0, _)]) (L' := [(0, _)]) ?_ ⟨rfl, trivial⟩ ⟨rfl, trivial⟩
  refine W_regL (WL_pure rfl rfl (by decide) (Pu_assign rfl rfl) (WL_nil (X_then ?_)))
  refine W_seq ?_
  refine W.pre (K' := [(0, _), (2, _)]) (L' := [(0, _)]) ?_ ⟨rfl, ⟨rfl, trivial⟩⟩ ⟨rfl, trivial⟩
  refine W_regL (WL_pure rfl rfl (by decide) (Pu_assign rfl rfl) (WL_nil (X_then ?_)))
  refine W_seq ?_
  refine W.pre (K' := [(0, _), (2, _), (3, _)]) (L' := [(0, _)]) ?_ ⟨rfl, ⟨rfl, ⟨rfl, trivial⟩⟩⟩ ⟨rfl, trivial⟩
  refine W_regL (WL_pure rfl rfl (by decide) (Pu_move rfl rfl) (WL_pure rfl rfl (by decide) (Pu_bin rfl rfl rfl (run_strEq _ _ _ _ _)) (WL_pure rfl rfl (by decide) (Pu_move rfl rfl) (WL_guardP rfl rfl rfl rfl (by decide) (fun hb => (Pu_move rfl rfl)) (WL_guardP rfl rfl rfl rfl (by decide) (fun hb => (Pu_bin rfl (ev_gv rfl hb) rfl (run_strEq _ _ _ _ _))) (WL_pure rfl rfl (by decide) (Pu_or rfl rfl rfl) (WL_pure rfl rfl (by decide) (Pu_move rfl rfl) (WL_guardP rfl rfl rfl rfl (by decide) (fun hb => (Pu_move rfl rfl)) (WL_guardP rfl rfl rfl rfl (by decide) (fun hb => (Pu_bin rfl (ev_gv rfl hb) rfl (run_strEq _ _ _ _ _))) (WL_pure rfl rfl (by decide) (Pu_or rfl rfl rfl) (WL_pure rfl rfl (by decide) (Pu_assign rfl rfl) (WL_nil (X_then ?_)))))))))))))
  refine W_seq ?_
  refine W.pre (K' := [(0, _), (2, _), (3, _), (4, _)]) (L' := [(0, _)]) ?_ ⟨rfl, ⟨rfl, ⟨rfl, ⟨rfl, trivial⟩⟩⟩⟩ ⟨rfl, trivial⟩
  refine W_regL (WL_pure rfl rfl (by decide) (Pu_assign rfl rfl) (WL_nil (X_then ?_)))
  refine W_seq ?_
  refine W_block ?_
  refine W_loop (α := Nat × Nat × Bool) (fun x => [(0, sV l), (3, .int .i64 (x.2.1 : Int)), (4, .bool x.2.2), (5, .int .i64 (x.1 : Int))]) (fun x => [(0, F)]) (fun x => chk (l.drop x.1) x.2.1 x.2.2 = checkN l ∧ x.2.1 ≤ x.1 ∧ x.1 ≤ l.length) (fun x => l.length - x.1) ((0, 0, bad0 l)) ⟨rfl, Nat.le_refl _, Nat.zero_le _⟩ ⟨rfl, ⟨rfl, ⟨rfl, ⟨rfl, trivial⟩⟩⟩⟩ ⟨rfl, trivial⟩ (fun x hx => ?_)
  obtain ⟨hchk, hnp, hpl⟩ := hx
  refine W_seq ?_
  refine W_seq ?_
  refine W.pre (K' := [(0, _), (3, _), (4, _), (5, _)]) (L' := [(0, _)]) ?_ ⟨rfl, ⟨rfl, ⟨rfl, ⟨rfl, trivial⟩⟩⟩⟩ ⟨rfl, trivial⟩
  refine W_regL (WL_pure rfl rfl (by decide) (Pu_move rfl rfl) (WL_pure rfl rfl (by decide) (Pu_move rfl rfl) (WL_pure rfl rfl (by decide) (Pu_lenStr rfl Tryd.underlying9 rfl) (WL_pure rfl rfl (by decide) (Pu_bin rfl rfl rfl (run_lss _ _ _ _ _ _)) (WL_nil (X_then ?_))))))
  refine W_cond rfl (fun hc21 => ?_) (fun hc21 => ?_)
  ·
    have hlt : x.1 < l.length := by have := of_decide_eq_true hc21; omega
    have hne : l.drop x.1 ≠ [] := by intro hc; have := congrArg List.length hc; simp at this; omega
    have hw := decodeL_width (l.drop x.1)
    have hle := decodeL_le (l.drop x.1) hne
    rw [List.length_drop] at hle
    refine W_skip (X_then ?_)
    refine W_block ?_
    refine W_seq ?_
    refine W.pre (K' := [(0, _), (3, _), (4, _), (5, _), (21, _)]) (L' := [(0, _)]) ?_ ⟨rfl, ⟨rfl, ⟨rfl, ⟨rfl, ⟨rfl, trivial⟩⟩⟩⟩⟩ ⟨rfl, trivial⟩
    refine W_regL (WL_pure rfl rfl (by decide) (Pu_move rfl rfl) (WL_pure rfl rfl (by decide) (Pu_move rfl rfl) (WL_cons rfl rfl (by decide) (OpT_call 200 [0] [] rfl Tryd.call20 rfl rfl rfl (by decide) (by decide) (one_rspec l x.1 hlt hl _) (fun v25 Ps25 hR25 => ?_)))))
    obtain ⟨rfl, rfl⟩ := hR25
    refine (WL_pure rfl rfl (by decide) (Pu_move rfl rfl) (WL_pure rfl rfl (by decide) (Pu_extract rfl rfl rfl) (WL_pure rfl rfl (by decide) (Pu_extract rfl rfl rfl) (WL_pure rfl rfl (by decide) (Pu_assign rfl rfl) (WL_pure rfl rfl (by decide) (Pu_assign rfl rfl) (WL_nil (X_then ?_)))))))
    refine W_seq ?_
    refine W_seq ?_
    refine W.pre (K' := [(0, _), (3, _), (4, _), (5, _), (6, _), (7, _), (21, _)]) (L' := [(0, _)]) ?_ ⟨rfl, ⟨rfl, ⟨rfl, ⟨rfl, ⟨rfl, ⟨rfl, ⟨rfl, trivial⟩⟩⟩⟩⟩⟩⟩ ⟨rfl, trivial⟩
    refine W_regL (WL_pure rfl rfl (by decide) (Pu_move rfl rfl) (WL_pure rfl rfl (by decide) (Pu_bin rfl rfl rfl (run_eql _ _ _ _ _ _)) (WL_nil (X_then ?_))))
    refine W_cond rfl (fun hc29 => ?_) (fun hc29 => ?_)
    ·
      have hno : noRune (l.drop x.1) = true := oneR_zero hc29
      refine W_seq ?_
      refine W.pre (K' := [(0, _), (3, _), (4, _), (5, _), (6, _), (7, _), (21, _), (29, _)]) (L' := [(0, _)]) ?_ ⟨rfl, ⟨rfl, ⟨rfl, ⟨rfl, ⟨rfl, ⟨rfl, ⟨rfl, ⟨rfl, trivial⟩⟩⟩⟩⟩⟩⟩⟩ ⟨rfl, trivial⟩
      refine W_regL (WL_pure rfl rfl (by decide) (Pu_assign rfl rfl) (WL_nil (X_then ?_)))
      refine W_ret (X_then_ret (X_block_ret (X_then_ret (X_block_ret (X_then_ret ?_)))))
      exact X_ret [] (Ps := []) (res1 Tryd.results12 rfl) rfl (by decide) ⟨by rw [← hchk, chk_none hne hno] <;> rfl, rfl⟩
    ·
      have hno : noRune (l.drop x.1) = false := oneR_pos hc29
      rw [show oneR (l.drop x.1) = decodeL (l.drop x.1) from by unfold oneR; rw [hno]; rfl]
      refine W_skip (X_then ?_)
      refine W_seq ?_
      refine W.pre (K' := [(0, _), (3, _), (4, _), (5, _), (6, _), (7, _), (21, _), (29, _)]) (L' := [(0, _)]) ?_ ⟨rfl, ⟨rfl, ⟨rfl, ⟨rfl, ⟨rfl, ⟨rfl, ⟨rfl, ⟨rfl, trivial⟩⟩⟩⟩⟩⟩⟩⟩ ⟨rfl, trivial⟩
      refine W_regL (WL_pure rfl rfl (by decide) (Pu_move rfl rfl) (WL_pure rfl rfl (by decide) (Pu_move rfl rfl) (WL_guardP rfl rfl rfl rfl (by decide) (fun hb => (Pu_move rfl rfl)) (WL_guardP rfl rfl rfl rfl (by decide) (fun hb => (Pu_bin rfl (ev_gv rfl hb) rfl (run_eql _ _ _ _ _ _))) (WL_pure rfl rfl (by decide) (Pu_or rfl rfl rfl) (WL_pure rfl rfl (by decide) (Pu_move rfl rfl) (WL_guardP rfl rfl rfl rfl (by decide) (fun hb => (Pu_move rfl rfl)) (WL_guardP rfl rfl rfl rfl (by decide) (fun hb => (Pu_bin rfl (ev_gv rfl hb) rfl (run_lss _ _ _ _ _ _))) (WL_pure rfl rfl (by decide) (Pu_or rfl rfl rfl) (WL_pure rfl rfl (by decide) (Pu_move rfl rfl) (WL_guardP rfl rfl rfl rfl (by decide) (fun hb => (Pu_move rfl rfl)) (WL_guardP rfl rfl rfl rfl (by decide) (fun hb => (Pu_bin rfl (ev_gv rfl hb) rfl (run_eql _ _ _ _ _ _))) (WL_pure rfl rfl (by decide) (Pu_or rfl rfl rfl) (WL_pure rfl rfl (by decide) (Pu_assign rfl rfl) (WL_nil (X_then ?_))))))))))))))))
      refine W_seq ?_
      refine W.pre (K' := [(0, _), (3, _), (4, _), (5, _), (6, _), (7, _), (21, _), (29, _)]) (L' := [(0, _)]) ?_ ⟨rfl, ⟨rfl, ⟨rfl, ⟨rfl, ⟨rfl, ⟨rfl, ⟨rfl, ⟨rfl, trivial⟩⟩⟩⟩⟩⟩⟩⟩ ⟨rfl, trivial⟩
      refine W_regL (WL_pure rfl rfl (by decide) (Pu_move rfl rfl) (WL_pure rfl rfl (by decide) (Pu_bin rfl rfl rfl (run_add _ _ _ _ _ (by omega))) (WL_pure rfl rfl (by decide) (Pu_assign rfl rfl) (WL_nil (X_then ?_)))))
      refine W.pre (K' := [(0, _), (3, _), (4, _), (5, _), (6, _), (7, _), (21, _), (29, _)]) (L' := [(0, _)]) ?_ ⟨rfl, ⟨rfl, ⟨rfl, ⟨rfl, ⟨rfl, ⟨rfl, ⟨rfl, ⟨rfl, trivial⟩⟩⟩⟩⟩⟩⟩⟩ ⟨rfl, trivial⟩
      refine W_regL (WL_pure rfl rfl (by decide) (Pu_move rfl rfl) (WL_pure rfl rfl (by decide) (Pu_move rfl rfl) (WL_pure rfl rfl (by decide) (Pu_bin rfl rfl rfl (run_add _ _ _ _ _ (by omega))) (WL_pure rfl rfl (by decide) (Pu_assign rfl rfl) (WL_nil (X_block ?_))))))
      exact X_round (x.1 + (decodeL (l.drop x.1)).2, x.2.1 + 1, (x.2.2 || wrongR (decodeL (l.drop x.1)).1)) ⟨by rw [← hchk, chk_some hne hno, List.drop_drop], by show x.2.1 + 1 ≤ x.1 + _; omega, by show x.1 + _ ≤ l.length; omega⟩ (by show l.length - (x.1 + _) < l.length - x.1; omega) ⟨rfl, rfl, congrArg some (bool_val (wrongR_ref _ _)), rfl, trivial⟩ ⟨rfl, trivial⟩
  ·
    have hge : l.length ≤ x.1 := by have := of_decide_eq_false hc21; omega
    have hend : l.drop x.1 = [] := List.drop_of_length_le hge
    rw [hend, chk_nil] at hchk
    refine W_exit (X_then_exit (X_then_exit (X_block_exit (X_then ?_))))
    refine W_seq ?_
    refine W_seq ?_
    refine W.pre (K' := [(0, _), (3, _), (4, _), (5, _), (21, _)]) (L' := [(0, _)]) ?_ ⟨rfl, ⟨rfl, ⟨rfl, ⟨rfl, ⟨rfl, trivial⟩⟩⟩⟩⟩ ⟨rfl, trivial⟩
    refine W_regL (WL_pure rfl rfl (by decide) (Pu_move rfl rfl) (WL_nil (X_then ?_)))
    refine W_cond rfl (fun hc48 => ?_) (fun hc48 => ?_)
    ·
      have hb := hc48
      refine W_seq ?_
      refine W.pre (K' := [(0, _), (3, _), (4, _), (5, _), (21, _), (48, _)]) (L' := [(0, _)]) ?_ ⟨rfl, ⟨rfl, ⟨rfl, ⟨rfl, ⟨rfl, ⟨rfl, trivial⟩⟩⟩⟩⟩⟩ ⟨rfl, trivial⟩
      refine W_regL (WL_pure rfl rfl (by decide) (Pu_assign rfl rfl) (WL_nil (X_then ?_)))
      refine W_ret (X_then_ret ?_)
      exact X_ret [] (Ps := []) (res1 Tryd.results12 rfl) rfl (by decide) ⟨by rw [← hchk, finC, hb] <;> rfl, rfl⟩
    ·
      have hb := hc48
      refine W_skip (X_then ?_)
      refine W_seq ?_
      refine W_seq ?_
      refine W.pre (K' := [(0, _), (3, _), (4, _), (5, _), (21, _), (48, _)]) (L' := [(0, _)]) ?_ ⟨rfl, ⟨rfl, ⟨rfl, ⟨rfl, ⟨rfl, ⟨rfl, trivial⟩⟩⟩⟩⟩⟩ ⟨rfl, trivial⟩
      refine W_regL (WL_pure rfl rfl (by decide) (Pu_move rfl rfl) (WL_pure rfl rfl (by decide) (Pu_bin rfl rfl rfl (run_gtr _ _ _ _ _ _)) (WL_nil (X_then ?_))))
      refine W_cond rfl (fun hc50 => ?_) (fun hc50 => ?_)
      ·
        have hb2 := of_decide_eq_true hc50
        refine W_seq ?_
        refine W.pre (K' := [(0, _), (3, _), (4, _), (5, _), (21, _), (48, _), (50, _)]) (L' := [(0, _)]) ?_ ⟨rfl, ⟨rfl, ⟨rfl, ⟨rfl, ⟨rfl, ⟨rfl, ⟨rfl, trivial⟩⟩⟩⟩⟩⟩⟩ ⟨rfl, trivial⟩
        refine W_regL (WL_pure rfl rfl (by decide) (Pu_assign rfl rfl) (WL_nil (X_then ?_)))
        refine W_ret (X_then_ret ?_)
        exact X_ret [] (Ps := []) (res1 Tryd.results12 rfl) rfl (by decide) ⟨by rw [← hchk, finC, hb, if_neg (by decide), if_pos (by omega)] <;> rfl, rfl⟩
      ·
        have hb2 := of_decide_eq_false hc50
        refine W_skip (X_then ?_)
        refine W_seq ?_
        refine W.pre (K' := [(0, _), (3, _), (4, _), (5, _), (21, _), (48, _), (50, _)]) (L' := [(0, _)]) ?_ ⟨rfl, ⟨rfl, ⟨rfl, ⟨rfl, ⟨rfl, ⟨rfl, ⟨rfl, trivial⟩⟩⟩⟩⟩⟩⟩ ⟨rfl, trivial⟩
        refine W_regL (WL_pure rfl rfl (by decide) (Pu_assign rfl rfl) (WL_nil (X_then ?_)))
        refine W_ret ?_
        exact X_ret [] (Ps := []) (res1 Tryd.results12 rfl) rfl (by decide) ⟨by rw [← hchk, finC, hb, if_neg (by decide), if_neg (by omega)] <;> rfl, rfl⟩
end Go.Proofs.YtjiafaiklmbbeaaDoor
