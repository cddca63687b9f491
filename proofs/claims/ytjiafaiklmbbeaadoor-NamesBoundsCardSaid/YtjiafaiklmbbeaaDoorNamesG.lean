/- latticelaw3: NamesBounds. -/
import Derived.Test.YtjiafaiklmbbeaaDoorNames2
import Derived.Test.YtjiafaiklmbbeaaDoorTiN
namespace Go.Proofs.YtjiafaiklmbbeaaDoor
open Go.RowKit Go.Lib
set_option linter.unusedVariables false
set_option linter.unusedSimpArgs false

def repB (p : List UInt8) (k : Nat) : List UInt8 := (List.replicate k p).flatten
theorem repB_succ (p : List UInt8) (k : Nat) : repB p (k + 1) = repB p k ++ p := by simp [repB, List.replicate_succ']
theorem repB_len (p : List UInt8) (k : Nat) : (repB p k).length = k * p.length := by simp [repB]
def boundS (m : Nat) (wide deep : Bool) : List UInt8 := if deep then repB [47, 97] (4 + m) else [47] ++ repB (if wide then [240, 159, 152, 128] else [113]) (11 + m)
theorem bounds_all : ∀ m : Fin 4, ∀ w d : Bool, if 1 < m.val then splitN (boundS m.val w d) = ([], if d then 4 else 5) else (splitN (boundS m.val w d)).2 = 0 ∧ 0 < (splitN (boundS m.val w d)).1.length := by decide +kernel
theorem bounds_over {m : Nat} (hm : m < 4) (h : 1 < m) (w d : Bool) : splitN (boundS m w d) = ([], if d then 4 else 5) := by
  have := bounds_all ⟨m, hm⟩ w d
  rwa [if_pos h] at this
theorem bounds_in {m : Nat} (hm : m < 4) (h : ¬ 1 < m) (w d : Bool) : (splitN (boundS m w d)).2 = 0 ∧ 0 < (splitN (boundS m w d)).1.length := by
  have := bounds_all ⟨m, hm⟩ w d
  rwa [if_neg h] at this
theorem namesBounds_law (n : Int) (wide deep : Bool) (F : HP) (hT : ∀ h, F h → tabsP h) :
    CallsS Tryd.prog 4 #[.int .i64 n, .bool wide, .bool deep] F [] (fun r Ps => r = .bool true ∧ Ps = []) := by
  refine callsS_enter Tryd.func4 rfl Tryd.ntmps4 (by simp) (fun E => ?_)
  refine W_seq ?_
  refine W.pre (K' := [(0, _), (1, _), (2, _)]) (L' := [(0, _)]) ?_ ⟨rfl, ⟨rfl, ⟨rfl, trivial⟩⟩⟩ ⟨rfl, trivial⟩
  refine W_regL (WL_pure rfl rfl (by decide) (Pu_assign rfl rfl) (WL_nil (X_then ?_)))
  refine W_seq ?_
  refine W_seq ?_
  refine W.pre (K' := [(0, _), (1, _), (2, _), (6, _)]) (L' := [(0, _)]) ?_ ⟨rfl, ⟨rfl, ⟨rfl, ⟨rfl, trivial⟩⟩⟩⟩ ⟨rfl, trivial⟩
  refine W_regL (WL_cons rfl rfl (by decide) (OpT_call 200 [0] [] rfl Tryd.call8 rfl rfl rfl (by decide) (by decide) (known_spec _ (tabs_star 0 rfl hT)) (fun v13 Ps13 hR13 => ?_)))
  obtain ⟨rfl, rfl⟩ := hR13
  refine (WL_pure rfl rfl (by decide) (Pu_un rfl rfl (run_not _)) (WL_nil (X_then ?_)))
  refine W_false rfl (rfl) ?_
  refine W_skip (X_then ?_)
  refine W_seq ?_
  refine W.pre (K' := [(0, _), (1, _), (2, _), (6, _), (14, _)]) (L' := [(0, _)]) ?_ ⟨rfl, ⟨rfl, ⟨rfl, ⟨rfl, ⟨rfl, trivial⟩⟩⟩⟩⟩ ⟨rfl, trivial⟩
  refine W_regL (WL_pure rfl rfl (by decide) (Pu_move rfl rfl) (WL_cons rfl rfl (by decide) (OpT_call 300 [0] [] rfl Tryd.call10 rfl rfl rfl (by decide) (by decide) (within_spec n 4 (by omega) (by omega) _) (fun v16 Ps16 hR16 => ?_))))
  obtain ⟨rfl, rfl⟩ := hR16
  obtain ⟨m, hm, hm4⟩ : ∃ m : Nat, n % 4 = (m : Int) ∧ m < 4 := ⟨(n % 4).toNat, by omega, by omega⟩
  rw [hm]
  refine (WL_pure rfl rfl (by decide) (Pu_assign rfl rfl) (WL_nil (X_then ?_)))
  refine W_seq ?_
  refine W.pre (K' := [(0, _), (1, _), (2, _), (6, _), (14, _)]) (L' := [(0, _)]) ?_ ⟨rfl, ⟨rfl, ⟨rfl, ⟨rfl, ⟨rfl, trivial⟩⟩⟩⟩⟩ ⟨rfl, trivial⟩
  refine W_regL (WL_pure rfl rfl (by decide) (Pu_assign rfl rfl) (WL_pure rfl rfl (by decide) (Pu_assign rfl rfl) (WL_nil (X_then ?_))))
  refine W_seq ?_
  refine W_seq ?_
  refine W.pre (K' := [(0, _), (1, _), (2, _), (6, _), (7, _), (8, _), (14, _)]) (L' := [(0, _)]) ?_ ⟨rfl, ⟨rfl, ⟨rfl, ⟨rfl, ⟨rfl, ⟨rfl, ⟨rfl, trivial⟩⟩⟩⟩⟩⟩⟩ ⟨rfl, trivial⟩
  refine W_regL (WL_pure rfl rfl (by decide) (Pu_move rfl rfl) (WL_nil (X_then ?_)))
  refine W_cond rfl (fun hc17 => ?_) (fun hc17 => ?_)
  ·
    have hd := hc17
    refine W_seq ?_
    refine W.pre (K' := [(0, _), (1, _), (2, _), (6, _), (7, _), (8, _), (14, _), (17, _)]) (L' := [(0, _)]) ?_ ⟨rfl, ⟨rfl, ⟨rfl, ⟨rfl, ⟨rfl, ⟨rfl, ⟨rfl, ⟨rfl, trivial⟩⟩⟩⟩⟩⟩⟩⟩ ⟨rfl, trivial⟩
    refine W_regL (WL_pure rfl rfl (by decide) (Pu_assign rfl rfl) (WL_nil (X_then ?_)))
    refine W_seq ?_
    refine W.pre (K' := [(0, _), (1, _), (2, _), (6, _), (7, _), (8, _), (14, _), (17, _)]) (L' := [(0, _)]) ?_ ⟨rfl, ⟨rfl, ⟨rfl, ⟨rfl, ⟨rfl, ⟨rfl, ⟨rfl, ⟨rfl, trivial⟩⟩⟩⟩⟩⟩⟩⟩ ⟨rfl, trivial⟩
    refine W_regL (WL_pure rfl rfl (by decide) (Pu_assign rfl rfl) (WL_nil (X_then ?_)))
    refine W_block ?_
    refine W_loop (α := Nat) (fun i => [(0, .int .i64 (m : Int)), (7, sV (repB [47, 97] i)), (8, .int .i64 4), (9, .int .i64 (i : Int))]) (fun i => [(0, F)]) (fun i => i ≤ 4 + m) (fun i => 4 + m - i) (0) (Nat.zero_le _) ⟨rfl, ⟨rfl, ⟨rfl, ⟨rfl, trivial⟩⟩⟩⟩ ⟨rfl, trivial⟩ (fun x hx => ?_)
    have hrl := repB_len [47, 97] x
    simp only [List.length_cons, List.length_nil] at hrl
    refine W_seq ?_
    refine W_seq ?_
    refine W.pre (K' := [(0, _), (7, _), (8, _), (9, _)]) (L' := [(0, _)]) ?_ ⟨rfl, ⟨rfl, ⟨rfl, ⟨rfl, trivial⟩⟩⟩⟩ ⟨rfl, trivial⟩
    refine W_regL (WL_pure rfl rfl (by decide) (Pu_move rfl rfl) (WL_pure rfl rfl (by decide) (Pu_move rfl rfl) (WL_pure rfl rfl (by decide) (Pu_bin rfl rfl rfl (run_add _ _ _ _ _ (by omega))) (WL_pure rfl rfl (by decide) (Pu_bin rfl rfl rfl (run_lss _ _ _ _ _ _)) (WL_nil (X_then ?_))))))
    refine W_cond rfl (fun hc21 => ?_) (fun hc21 => ?_)
    ·
      have hlt : x + 1 ≤ 4 + m := by have := of_decide_eq_true hc21; omega
      refine W_skip (X_then ?_)
      refine W_seq ?_
      refine W_block ?_
      refine W.pre (K' := [(0, _), (7, _), (8, _), (9, _), (21, _)]) (L' := [(0, _)]) ?_ ⟨rfl, ⟨rfl, ⟨rfl, ⟨rfl, ⟨rfl, trivial⟩⟩⟩⟩⟩ ⟨rfl, trivial⟩
      refine W_regL (WL_pure rfl rfl (by decide) (Pu_move rfl rfl) (WL_pure rfl rfl (by decide) (Pu_bin rfl rfl rfl (run_addL _ _ _ _ _ (by simp only [List.length_cons, List.length_nil]; omega))) (WL_pure rfl rfl (by decide) (Pu_assign rfl rfl) (WL_nil (X_block (X_then ?_))))))
      refine W.pre (K' := [(0, _), (7, _), (8, _), (9, _), (21, _)]) (L' := [(0, _)]) ?_ ⟨rfl, ⟨rfl, ⟨rfl, ⟨rfl, ⟨rfl, trivial⟩⟩⟩⟩⟩ ⟨rfl, trivial⟩
      refine W_regL (WL_pure rfl rfl (by decide) (Pu_move rfl rfl) (WL_pure rfl rfl (by decide) (Pu_bin rfl rfl rfl (run_add _ _ _ _ _ (by omega))) (WL_pure rfl rfl (by decide) (Pu_assign rfl rfl) (WL_nil ?_))))
      exact X_round (x + 1) hlt (by omega) ⟨rfl, congrArg some (by rw [repB_succ] <;> rfl), rfl, rfl, trivial⟩ ⟨rfl, trivial⟩
    ·
      obtain rfl : x = 4 + m := by have := of_decide_eq_false hc21; omega
      have hS : repB [47, 97] (4 + m) = boundS m wide deep := by unfold boundS; rw [hd]; rfl
      rw [hS]
      have hSl : (boundS m wide deep).length ≤ 100 := by rw [← hS]; omega
      refine W_exit (X_then_exit (X_then_exit (X_block_exit (X_then ?_))))
      refine W_seq ?_
      refine W.pre (K' := [(0, _), (7, _), (8, _), (9, _), (21, _)]) (L' := [(0, _)]) ?_ ⟨rfl, ⟨rfl, ⟨rfl, ⟨rfl, ⟨rfl, trivial⟩⟩⟩⟩⟩ ⟨rfl, trivial⟩
      refine W_regL (WL_pure rfl rfl (by decide) (Pu_move rfl rfl) (WL_cons rfl rfl (by decide) (OpT_call 400 [0] [] rfl Tryd.call13 rfl rfl rfl (by decide) (by decide) (split_nspec (boundS m wide deep) (by omega) _ (tabs_star 0 rfl hT)) (fun v41 Ps41 hR41 => ?_))))
      obtain ⟨v41, rfl, rfl⟩ := hR41
      refine (WL_pure rfl rfl (by decide) (Pu_move rfl rfl) (WL_pure rfl rfl (by decide) (Pu_extract rfl rfl rfl) (WL_pure rfl rfl (by decide) (Pu_extract rfl rfl rfl) (WL_pure rfl rfl (by decide) (Pu_assign rfl rfl) (WL_pure rfl rfl (by decide) (Pu_assign rfl rfl) (WL_nil (X_then ?_)))))))
      refine W_seq ?_
      refine W_seq ?_
      refine W.pre (K' := [(0, _), (7, _), (8, _), (9, _), (11, _), (12, _), (21, _)]) (L' := [(0, _), (400, _)]) ?_ ⟨rfl, ⟨rfl, ⟨rfl, ⟨rfl, ⟨rfl, ⟨rfl, ⟨rfl, trivial⟩⟩⟩⟩⟩⟩⟩ ⟨rfl, ⟨rfl, trivial⟩⟩
      refine W_regL (WL_pure rfl rfl (by decide) (Pu_move rfl rfl) (WL_pure rfl rfl (by decide) (Pu_bin rfl rfl rfl (run_gtr _ _ _ _ _ _)) (WL_nil (X_then ?_))))
      refine W_cond rfl (fun hc45 => ?_) (fun hc45 => ?_)
      ·
        have hb := bounds_over hm4 (by have := of_decide_eq_true hc45; omega) wide deep
        rw [hb]
        refine W_seq ?_
        refine W.pre (K' := [(0, _), (7, _), (8, _), (9, _), (11, _), (12, _), (21, _), (45, _)]) (L' := [(0, _), (400, _)]) ?_ ⟨rfl, ⟨rfl, ⟨rfl, ⟨rfl, ⟨rfl, ⟨rfl, ⟨rfl, ⟨rfl, trivial⟩⟩⟩⟩⟩⟩⟩⟩ ⟨rfl, ⟨rfl, trivial⟩⟩
        refine W_regL (WL_pure rfl rfl (by decide) (Pu_move rfl rfl) (WL_pure rfl rfl (by decide) (Pu_move rfl rfl) (WL_pure rfl rfl (by decide) (Pu_bin rfl rfl rfl (run_eql _ _ _ _ _ _)) (WL_pure rfl rfl (by decide) (Pu_move rfl rfl) (WL_guardP rfl rfl rfl rfl (by decide) (fun hb => (Pu_move rfl rfl)) (WL_guardP rfl rfl rfl rfl (by decide) (fun hb => (Pu_len (r := 400) rfl Tryd.runUnderlying30 (ev_gv rfl hb) rfl rowS_rd)) (WL_guardP rfl rfl rfl rfl (by decide) (fun hb => (Pu_bin rfl (ev_gv rfl hb) rfl (run_eql _ _ _ _ _ _))) (WL_pure rfl rfl (by decide) (Pu_and rfl rfl rfl) (WL_pure rfl rfl (by decide) (Pu_assign rfl rfl) (WL_nil (X_then ?_)))))))))))
        refine W_ret (X_then_ret ?_)
        exact X_ret [] (Ps := []) (res1 Tryd.results4 rfl) rfl (by decide) ⟨bool_val (by rw [hd]; rfl), rfl⟩
      ·
        have hb := bounds_in hm4 (by have := of_decide_eq_false hc45; omega) wide deep
        refine W_skip (X_then ?_)
        refine W_seq ?_
        refine W.pre (K' := [(0, _), (7, _), (8, _), (9, _), (11, _), (12, _), (21, _), (45, _)]) (L' := [(0, _), (400, _)]) ?_ ⟨rfl, ⟨rfl, ⟨rfl, ⟨rfl, ⟨rfl, ⟨rfl, ⟨rfl, ⟨rfl, trivial⟩⟩⟩⟩⟩⟩⟩⟩ ⟨rfl, ⟨rfl, trivial⟩⟩
        refine W_regL (WL_pure rfl rfl (by decide) (Pu_move rfl rfl) (WL_pure rfl rfl (by decide) (Pu_bin rfl rfl rfl (run_eql _ _ _ _ _ _)) (WL_pure rfl rfl (by decide) (Pu_move rfl rfl) (WL_guardP rfl rfl rfl rfl (by decide) (fun hb => (Pu_move rfl rfl)) (WL_guardP rfl rfl rfl rfl (by decide) (fun hb => (Pu_len (r := 400) rfl Tryd.runUnderlying30 (ev_gv rfl hb) rfl rowS_rd)) (WL_guardP rfl rfl rfl rfl (by decide) (fun hb => (Pu_bin rfl (ev_gv rfl hb) rfl (run_gtr _ _ _ _ _ _))) (WL_pure rfl rfl (by decide) (Pu_and rfl rfl rfl) (WL_pure rfl rfl (by decide) (Pu_assign rfl rfl) (WL_nil (X_then ?_))))))))))
        refine W_ret ?_
        exact X_ret [] (Ps := []) (res1 Tryd.results4 rfl) rfl (by decide) ⟨bool_val (by rw [hb.1]; simp only [Bool.and_eq_true, decide_eq_true_eq]; exact ⟨rfl, by have := hb.2; omega⟩), rfl⟩
  ·
    have hd := hc17
    refine W_seq ?_
    refine W_seq ?_
    refine W.pre (K' := [(0, _), (1, _), (2, _), (6, _), (7, _), (8, _), (14, _), (17, _)]) (L' := [(0, _)]) ?_ ⟨rfl, ⟨rfl, ⟨rfl, ⟨rfl, ⟨rfl, ⟨rfl, ⟨rfl, ⟨rfl, trivial⟩⟩⟩⟩⟩⟩⟩⟩ ⟨rfl, trivial⟩
    refine W_regL (WL_pure rfl rfl (by decide) (Pu_assign rfl rfl) (WL_nil (X_then ?_)))
    refine W_block ?_
    refine W_loop (α := Nat) (fun i => [(0, .int .i64 (m : Int)), (1, .bool wide), (7, sV (repB (if wide then [240, 159, 152, 128] else [113]) i)), (8, .int .i64 5), (10, .int .i64 (i : Int))]) (fun i => [(0, F)]) (fun i => i ≤ 11 + m) (fun i => 11 + m - i) (0) (Nat.zero_le _) ⟨rfl, ⟨rfl, ⟨rfl, ⟨rfl, ⟨rfl, trivial⟩⟩⟩⟩⟩ ⟨rfl, trivial⟩ (fun x hx => ?_)
    have hrl : (repB (if wide then [240, 159, 152, 128] else [113]) x).length ≤ 4 * x := by rw [repB_len]; cases wide <;> simp <;> omega
    refine W_seq ?_
    refine W_seq ?_
    refine W.pre (K' := [(0, _), (1, _), (7, _), (8, _), (10, _)]) (L' := [(0, _)]) ?_ ⟨rfl, ⟨rfl, ⟨rfl, ⟨rfl, ⟨rfl, trivial⟩⟩⟩⟩⟩ ⟨rfl, trivial⟩
    refine W_regL (WL_pure rfl rfl (by decide) (Pu_move rfl rfl) (WL_pure rfl rfl (by decide) (Pu_move rfl rfl) (WL_pure rfl rfl (by decide) (Pu_bin rfl rfl rfl (run_add _ _ _ _ _ (by omega))) (WL_pure rfl rfl (by decide) (Pu_bin rfl rfl rfl (run_lss _ _ _ _ _ _)) (WL_nil (X_then ?_))))))
    refine W_cond rfl (fun hc29 => ?_) (fun hc29 => ?_)
    ·
      have hlt : x + 1 ≤ 11 + m := by have := of_decide_eq_true hc29; omega
      refine W_skip (X_then ?_)
      refine W_seq ?_
      refine W_block ?_
      refine W_seq ?_
      refine W.pre (K' := [(0, _), (1, _), (7, _), (8, _), (10, _), (29, _)]) (L' := [(0, _)]) ?_ ⟨rfl, ⟨rfl, ⟨rfl, ⟨rfl, ⟨rfl, ⟨rfl, trivial⟩⟩⟩⟩⟩⟩ ⟨rfl, trivial⟩
      refine W_regL (WL_pure rfl rfl (by decide) (Pu_move rfl rfl) (WL_nil (X_then ?_)))
      refine W_cond rfl (fun hc32 => ?_) (fun hc32 => ?_)
      ·
        refine W.pre (K' := [(0, _), (1, _), (7, _), (8, _), (10, _), (29, _), (32, _)]) (L' := [(0, _)]) ?_ ⟨rfl, ⟨rfl, ⟨rfl, ⟨rfl, ⟨rfl, ⟨rfl, ⟨rfl, trivial⟩⟩⟩⟩⟩⟩⟩ ⟨rfl, trivial⟩
        refine W_regL (WL_pure rfl rfl (by decide) (Pu_move rfl rfl) (WL_pure rfl rfl (by decide) (Pu_bin rfl rfl rfl (run_addL _ _ _ _ _ (by simp only [List.length_cons, List.length_nil]; omega))) (WL_pure rfl rfl (by decide) (Pu_assign rfl rfl) (WL_nil (X_block (X_then ?_))))))
        refine W.pre (K' := [(0, _), (1, _), (7, _), (8, _), (10, _), (29, _), (32, _)]) (L' := [(0, _)]) ?_ ⟨rfl, ⟨rfl, ⟨rfl, ⟨rfl, ⟨rfl, ⟨rfl, ⟨rfl, trivial⟩⟩⟩⟩⟩⟩⟩ ⟨rfl, trivial⟩
        refine W_regL (WL_pure rfl rfl (by decide) (Pu_move rfl rfl) (WL_pure rfl rfl (by decide) (Pu_bin rfl rfl rfl (run_add _ _ _ _ _ (by omega))) (WL_pure rfl rfl (by decide) (Pu_assign rfl rfl) (WL_nil ?_))))
        exact X_round (x + 1) hlt (by omega) ⟨rfl, rfl, congrArg some (by rw [repB_succ, hc32] <;> rfl), rfl, rfl, trivial⟩ ⟨rfl, trivial⟩
      ·
        refine W.pre (K' := [(0, _), (1, _), (7, _), (8, _), (10, _), (29, _), (32, _)]) (L' := [(0, _)]) ?_ ⟨rfl, ⟨rfl, ⟨rfl, ⟨rfl, ⟨rfl, ⟨rfl, ⟨rfl, trivial⟩⟩⟩⟩⟩⟩⟩ ⟨rfl, trivial⟩
        refine W_regL (WL_pure rfl rfl (by decide) (Pu_move rfl rfl) (WL_pure rfl rfl (by decide) (Pu_bin rfl rfl rfl (run_addL _ _ _ _ _ (by simp only [List.length_cons, List.length_nil]; omega))) (WL_pure rfl rfl (by decide) (Pu_assign rfl rfl) (WL_nil (X_block (X_then ?_))))))
        refine W.pre (K' := [(0, _), (1, _), (7, _), (8, _), (10, _), (29, _), (32, _)]) (L' := [(0, _)]) ?_ ⟨rfl, ⟨rfl, ⟨rfl, ⟨rfl, ⟨rfl, ⟨rfl, ⟨rfl, trivial⟩⟩⟩⟩⟩⟩⟩ ⟨rfl, trivial⟩
        refine W_regL (WL_pure rfl rfl (by decide) (Pu_move rfl rfl) (WL_pure rfl rfl (by decide) (Pu_bin rfl rfl rfl (run_add _ _ _ _ _ (by omega))) (WL_pure rfl rfl (by decide) (Pu_assign rfl rfl) (WL_nil ?_))))
        exact X_round (x + 1) hlt (by omega) ⟨rfl, rfl, congrArg some (by rw [repB_succ, hc32] <;> rfl), rfl, rfl, trivial⟩ ⟨rfl, trivial⟩
    ·
      obtain rfl : x = 11 + m := by have := of_decide_eq_false hc29; omega
      refine W_exit (X_then_exit (X_then_exit (X_block_exit (X_then ?_))))
      refine W.pre (K' := [(0, _), (1, _), (7, _), (8, _), (10, _), (29, _)]) (L' := [(0, _)]) ?_ ⟨rfl, ⟨rfl, ⟨rfl, ⟨rfl, ⟨rfl, ⟨rfl, trivial⟩⟩⟩⟩⟩⟩ ⟨rfl, trivial⟩
      refine W_regL (WL_pure rfl rfl (by decide) (Pu_move rfl rfl) (WL_pure rfl rfl (by decide) (Pu_bin rfl rfl rfl (run_addL _ _ _ _ _ (by simp only [List.length_cons, List.length_nil]; omega))) ?_))
      have hS : [47] ++ repB (if wide then [240, 159, 152, 128] else [113]) (11 + m) = boundS m wide deep := by unfold boundS; rw [hd]; rfl
      rw [hS]
      have hSl : (boundS m wide deep).length ≤ 100 := by rw [← hS]; simp only [List.length_append, List.length_cons, List.length_nil]; omega
      refine (WL_pure rfl rfl (by decide) (Pu_assign rfl rfl) (WL_nil (X_then ?_)))
      refine W_seq ?_
      refine W.pre (K' := [(0, _), (1, _), (7, _), (8, _), (10, _), (29, _)]) (L' := [(0, _)]) ?_ ⟨rfl, ⟨rfl, ⟨rfl, ⟨rfl, ⟨rfl, ⟨rfl, trivial⟩⟩⟩⟩⟩⟩ ⟨rfl, trivial⟩
      refine W_regL (WL_pure rfl rfl (by decide) (Pu_move rfl rfl) (WL_cons rfl rfl (by decide) (OpT_call 400 [0] [] rfl Tryd.call13 rfl rfl rfl (by decide) (by decide) (split_nspec (boundS m wide deep) (by omega) _ (tabs_star 0 rfl hT)) (fun v41 Ps41 hR41 => ?_))))
      obtain ⟨v41, rfl, rfl⟩ := hR41
      refine (WL_pure rfl rfl (by decide) (Pu_move rfl rfl) (WL_pure rfl rfl (by decide) (Pu_extract rfl rfl rfl) (WL_pure rfl rfl (by decide) (Pu_extract rfl rfl rfl) (WL_pure rfl rfl (by decide) (Pu_assign rfl rfl) (WL_pure rfl rfl (by decide) (Pu_assign rfl rfl) (WL_nil (X_then ?_)))))))
      refine W_seq ?_
      refine W_seq ?_
      refine W.pre (K' := [(0, _), (1, _), (7, _), (8, _), (10, _), (11, _), (12, _), (29, _)]) (L' := [(0, _), (400, _)]) ?_ ⟨rfl, ⟨rfl, ⟨rfl, ⟨rfl, ⟨rfl, ⟨rfl, ⟨rfl, ⟨rfl, trivial⟩⟩⟩⟩⟩⟩⟩⟩ ⟨rfl, ⟨rfl, trivial⟩⟩
      refine W_regL (WL_pure rfl rfl (by decide) (Pu_move rfl rfl) (WL_pure rfl rfl (by decide) (Pu_bin rfl rfl rfl (run_gtr _ _ _ _ _ _)) (WL_nil (X_then ?_))))
      refine W_cond rfl (fun hc45 => ?_) (fun hc45 => ?_)
      ·
        have hb := bounds_over hm4 (by have := of_decide_eq_true hc45; omega) wide deep
        rw [hb]
        refine W_seq ?_
        refine W.pre (K' := [(0, _), (1, _), (7, _), (8, _), (10, _), (11, _), (12, _), (29, _), (45, _)]) (L' := [(0, _), (400, _)]) ?_ ⟨rfl, ⟨rfl, ⟨rfl, ⟨rfl, ⟨rfl, ⟨rfl, ⟨rfl, ⟨rfl, ⟨rfl, trivial⟩⟩⟩⟩⟩⟩⟩⟩⟩ ⟨rfl, ⟨rfl, trivial⟩⟩
        refine W_regL (WL_pure rfl rfl (by decide) (Pu_move rfl rfl) (WL_pure rfl rfl (by decide) (Pu_move rfl rfl) (WL_pure rfl rfl (by decide) (Pu_bin rfl rfl rfl (run_eql _ _ _ _ _ _)) (WL_pure rfl rfl (by decide) (Pu_move rfl rfl) (WL_guardP rfl rfl rfl rfl (by decide) (fun hb => (Pu_move rfl rfl)) (WL_guardP rfl rfl rfl rfl (by decide) (fun hb => (Pu_len (r := 400) rfl Tryd.runUnderlying30 (ev_gv rfl hb) rfl rowS_rd)) (WL_guardP rfl rfl rfl rfl (by decide) (fun hb => (Pu_bin rfl (ev_gv rfl hb) rfl (run_eql _ _ _ _ _ _))) (WL_pure rfl rfl (by decide) (Pu_and rfl rfl rfl) (WL_pure rfl rfl (by decide) (Pu_assign rfl rfl) (WL_nil (X_then ?_)))))))))))
        refine W_ret (X_then_ret ?_)
        exact X_ret [] (Ps := []) (res1 Tryd.results4 rfl) rfl (by decide) ⟨bool_val (by rw [hd]; rfl), rfl⟩
      ·
        have hb := bounds_in hm4 (by have := of_decide_eq_false hc45; omega) wide deep
        refine W_skip (X_then ?_)
        refine W_seq ?_
        refine W.pre (K' := [(0, _), (1, _), (7, _), (8, _), (10, _), (11, _), (12, _), (29, _), (45, _)]) (L' := [(0, _), (400, _)]) ?_ ⟨rfl, ⟨rfl, ⟨rfl, ⟨rfl, ⟨rfl, ⟨rfl, ⟨rfl, ⟨rfl, ⟨rfl, trivial⟩⟩⟩⟩⟩⟩⟩⟩⟩ ⟨rfl, ⟨rfl, trivial⟩⟩
        refine W_regL (WL_pure rfl rfl (by decide) (Pu_move rfl rfl) (WL_pure rfl rfl (by decide) (Pu_bin rfl rfl rfl (run_eql _ _ _ _ _ _)) (WL_pure rfl rfl (by decide) (Pu_move rfl rfl) (WL_guardP rfl rfl rfl rfl (by decide) (fun hb => (Pu_move rfl rfl)) (WL_guardP rfl rfl rfl rfl (by decide) (fun hb => (Pu_len (r := 400) rfl Tryd.runUnderlying30 (ev_gv rfl hb) rfl rowS_rd)) (WL_guardP rfl rfl rfl rfl (by decide) (fun hb => (Pu_bin rfl (ev_gv rfl hb) rfl (run_gtr _ _ _ _ _ _))) (WL_pure rfl rfl (by decide) (Pu_and rfl rfl rfl) (WL_pure rfl rfl (by decide) (Pu_assign rfl rfl) (WL_nil (X_then ?_))))))))))
        refine W_ret ?_
        exact X_ret [] (Ps := []) (res1 Tryd.results4 rfl) rfl (by decide) ⟨bool_val (by rw [hb.1]; simp only [Bool.and_eq_true, decide_eq_true_eq]; exact ⟨rfl, by have := hb.2; omega⟩), rfl⟩

theorem namesBounds_any (W : World) (hT : ∀ h, orig W h → tabsP h) (a0 : Int) (lo0 : -9223372036854775808 ≤ a0) (hi0 : a0 ≤ 9223372036854775807) (a1 a2 : Bool) :
    Calls Tryd.prog 4 #[.int .i64 a0, .bool a1, .bool a2] W fun e W' => e = .returned (.bool true) ∧ Chg [] W W' :=
  calls_law ((namesBounds_law a0 a1 a2 (orig W) hT).imp fun v Ps h => h.1)
end Go.Proofs.YtjiafaiklmbbeaaDoor
