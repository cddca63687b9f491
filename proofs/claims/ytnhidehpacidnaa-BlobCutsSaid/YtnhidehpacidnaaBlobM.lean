/- Blocks: the inode that a law takes. -/
import Derived.Test.YtnhidehpacidnaaBlobL
import Derived.Test.YtnhidehpacidnaaOpen2
import Derived.Test.YtnhidehpacidnaaBlobD
import Derived.Test.YtnhidehpacidnaaBlob4
namespace Go.Proofs.Ytnhidehpacidnaa
open Go.RowKit
set_option linter.unusedVariables false

theorem nodeM_spec (k s l : Int) (top : List UInt8) (ht : top.length = 32) (how : Int) (F : HP) : CallsS Try.prog 16 #[nodeV k s l top, .int .i64 how] F [] (fun v Ps => v = nodeV (nodeM k s l top how).1 (nodeM k s l top how).2.1 (nodeM k s l top how).2.2.1 (nodeM k s l top how).2.2.2 ∧ Ps = []) := by
  refine callsS_enter Try.func16 rfl Try.ntmps16 (by simp) (fun E => ?_)
  refine W_seq ?_
  refine W.pre (K' := [(0, _), (1, _)]) (L' := [(0, _)]) ?_ ⟨rfl, ⟨rfl, trivial⟩⟩ ⟨rfl, trivial⟩
  refine W_regL (WL_cons rfl rfl (by decide) (OpT_box (r := 101) rfl rfl rfl (fun g101 => (WL_cons rfl rfl (by decide) (OpT_alloc (r := 102) rfl (zero_run (by kernel_rfl : (Try.prog.info? 27).bind (·.zero) = some (.agg (nodeC 0 0 0 zeroId).toArray))) rfl (fun g102 => (WL_nil (X_then ?_))))))))
  refine W_seq ?_
  refine W_seq ?_
  refine W.pre (K' := [(0, _), (1, _), (2, _), (4, _)]) (L' := [(0, _), (101, _), (102, _)]) ?_ ⟨rfl, ⟨rfl, ⟨rfl, ⟨rfl, trivial⟩⟩⟩⟩ ⟨rfl, ⟨rfl, ⟨rfl, trivial⟩⟩⟩
  refine W_regL (WL_pure rfl rfl (by decide) (Pu_move rfl rfl) (WL_pure rfl rfl (by decide) (Pu_bin rfl rfl rfl (run_tmod _ _ _ _ _ (by omega))) (WL_pure rfl rfl (by decide) (Pu_bin rfl rfl rfl (run_eql _ _ _ _ _ _)) (WL_nil (X_then ?_)))))
  refine W_cond rfl (fun hc7 => ?_) (fun hc7 => ?_)
  ·
    have h0 := of_decide_eq_true hc7
    refine W_seq ?_
    refine W.pre (K' := [(0, _), (1, _), (2, _), (4, _), (7, _)]) (L' := [(0, _), (101, _), (102, _)]) ?_ ⟨rfl, ⟨rfl, ⟨rfl, ⟨rfl, ⟨rfl, trivial⟩⟩⟩⟩⟩ ⟨rfl, ⟨rfl, ⟨rfl, trivial⟩⟩⟩
    refine W_regL (WL_pure rfl rfl (by decide) (Pu_loadBN (r := 101) rfl Try.isAgg27 Try.sizeOf27 rfl rfl (nodeC_length ht) (load_all (nodeC_length ht))) (WL_cons0 rfl rfl (OpT_storeAll (r := 102) rfl Try.sizeOf27 rfl rfl rfl rfl (nodeC_length ht) (one_node _ _ _ _) ?_)))
    refine (WL_nil (X_then ?_))
    refine W_ret (X_then_ret ?_)
    exact X_ret [] (Ps := []) (resC1 (r := 102) Try.results16 rfl Try.isAgg27 Try.sizeOf27 rfl (nodeC_length ht)) rfl (by decide) ⟨by rw [nodeM, if_pos h0]; rfl, rfl⟩
  ·
    have h0 := of_decide_eq_false hc7
    refine W_skip (X_then ?_)
    refine W_seq ?_
    refine W.pre (K' := [(0, _), (1, _), (2, _), (4, _), (7, _)]) (L' := [(0, _), (101, _), (102, _)]) ?_ ⟨rfl, ⟨rfl, ⟨rfl, ⟨rfl, ⟨rfl, trivial⟩⟩⟩⟩⟩ ⟨rfl, ⟨rfl, ⟨rfl, trivial⟩⟩⟩
    refine W_draw (N := 11) (by kernel_rfl) rfl [(0, _), (102, _)] ⟨rfl, ⟨rfl, trivial⟩⟩ ?_
    refine (AH_take 0 rfl (by kernel_rfl) (by kernel_rfl) (by kernel_rfl) rfl rfl (by decide) (Pu_fieldAddrB (off := 0) rfl rfl (by kernel_rfl)) (AH_take 4 rfl (by kernel_rfl) (by kernel_rfl) (by kernel_rfl) rfl rfl (by decide) (Pu_fieldAddrB (off := 1) rfl rfl (by kernel_rfl)) (AH_ready [1, 5] (by kernel_rfl) (by decide) ?_)))
    refine AHs_cons rfl rfl rfl (by decide) (OpT_run (Pu_loadB (r := 101) rfl Try.isAgg3 rfl rfl rfl) ⟨⟨rfl, ⟨rfl, trivial⟩⟩, ?_⟩) ?_
    ·
      refine (AH_ready [2, 5] (by kernel_rfl) (by decide) ?_)
      refine AHs_cons rfl rfl rfl (by decide) (OpT_call 200 [0, 101, 102] [] rfl Try.call8 rfl rfl rfl (by decide) (by decide) (within_spec k 2 (by omega) (by omega) _) (fun v11 Ps11 hR11 => ?_)) ?_
      ·
        obtain ⟨rfl, rfl⟩ := hR11
        refine ⟨⟨rfl, ⟨rfl, trivial⟩⟩, ?_⟩
        refine (AH_take 3 rfl (by kernel_rfl) (by kernel_rfl) (by kernel_rfl) rfl rfl (by decide) (Pu_bin rfl rfl rfl (run_add _ _ _ _ _ (by omega))) (AH_ready [5] (by kernel_rfl) (by decide) ?_))
        refine AHs_cons rfl rfl rfl (by decide) (OpT_run (Pu_loadB (r := 101) rfl Try.isAgg3 rfl rfl rfl) ⟨⟨rfl, ⟨rfl, trivial⟩⟩, ?_⟩) ?_
        ·
          refine (AH_take 7 rfl (by kernel_rfl) (by kernel_rfl) (by kernel_rfl) rfl rfl (by decide) (Pu_fieldAddrB (off := 0) rfl rfl (by kernel_rfl)) (AH_ready [6] (by kernel_rfl) (by decide) ?_))
          refine AHs_cons rfl rfl rfl (by decide) (OpT_call 300 [0, 101, 102] [] rfl Try.call8 rfl rfl rfl (by decide) (by decide) (within_spec s 5000 (by omega) (by omega) _) (fun v15 Ps15 hR15 => ?_)) ?_
          ·
            obtain ⟨rfl, rfl⟩ := hR15
            refine ⟨⟨rfl, ⟨rfl, trivial⟩⟩, ?_⟩
            refine (AH_ready [8] (by kernel_rfl) (by decide) ?_)
            refine AHs_cons0 rfl rfl rfl (OpT_storeB1 (r := 101) rfl Try.sizeOf3 rfl rfl rfl rfl (by rw [nodeC_length ht]; decide) (rfl : _ = nodeC (1 + k % 2) s l top) ?_) ?_
            ·
              refine ⟨⟨rfl, ⟨rfl, trivial⟩⟩, ?_⟩
              refine (AH_take 9 rfl (by kernel_rfl) (by kernel_rfl) (by kernel_rfl) rfl rfl (by decide) (Pu_fieldAddrB (off := 1) rfl rfl (by kernel_rfl)) (AH_ready [10] (by kernel_rfl) (by decide) ?_))
              refine AHs_cons0 rfl rfl rfl (OpT_storeB1 (r := 101) rfl Try.sizeOf3 rfl rfl rfl rfl (by rw [nodeC_length ht]; decide) (rfl : _ = nodeC (1 + k % 2) (s % 5000) l top) ?_) ?_
              ·
                refine ⟨⟨rfl, ⟨rfl, trivial⟩⟩, ?_⟩
                refine (AH_done (by kernel_rfl) (X_then ?_))
                refine W_seq ?_
                refine W.pre (K' := [(0, _), (1, _), (2, _), (4, _), (7, _)]) (L' := [(0, _), (101, _), (102, _)]) ?_ ⟨rfl, ⟨rfl, ⟨rfl, ⟨rfl, ⟨rfl, trivial⟩⟩⟩⟩⟩ ⟨rfl, ⟨rfl, ⟨rfl, trivial⟩⟩⟩
                refine W_regL (WL_pure rfl rfl (by decide) (Pu_fieldAddrB (off := 1) rfl rfl (by kernel_rfl)) (WL_pure rfl rfl (by decide) (Pu_loadB (r := 101) rfl Try.isAgg3 rfl rfl rfl) (WL_cons rfl rfl (by decide) (OpT_call 400 [0, 101, 102] [] rfl Try.call25 rfl rfl rfl (by decide) (by decide) (refLevels_spec (s % 5000) (by omega) _) (fun v20 Ps20 hR20 => ?_)))))
                obtain ⟨rfl, rfl⟩ := hR20
                refine (WL_pure rfl rfl (by decide) (Pu_fieldAddrB (off := 2) rfl rfl (by kernel_rfl)) (WL_cons0 rfl rfl (OpT_storeB1 (r := 101) rfl Try.sizeOf3 rfl rfl rfl rfl (by rw [nodeC_length ht]; decide) (rfl : _ = nodeC (1 + k % 2) (s % 5000) (lev (s % 5000) : Int) top) ?_)))
                refine (WL_nil (X_then ?_))
                refine W_seq ?_
                refine W_seq ?_
                refine W.pre (K' := [(0, _), (1, _), (2, _), (4, _), (7, _)]) (L' := [(0, _), (101, _), (102, _)]) ?_ ⟨rfl, ⟨rfl, ⟨rfl, ⟨rfl, ⟨rfl, trivial⟩⟩⟩⟩⟩ ⟨rfl, ⟨rfl, ⟨rfl, trivial⟩⟩⟩
                refine W_regL (WL_pure rfl rfl (by decide) (Pu_fieldAddrB (off := 1) rfl rfl (by kernel_rfl)) (WL_pure rfl rfl (by decide) (Pu_loadB (r := 101) rfl Try.isAgg3 rfl rfl rfl) (WL_pure rfl rfl (by decide) (Pu_bin rfl rfl rfl (run_eql _ _ _ _ _ _)) (WL_nil (X_then ?_)))))
                refine W_cond rfl (fun hc24 => ?_) (fun hc24 => ?_)
                ·
                  have h5 := of_decide_eq_true hc24
                  refine W.pre (K' := [(0, _), (1, _), (2, _), (4, _), (7, _), (24, _)]) (L' := [(0, _), (101, _), (102, _)]) ?_ ⟨rfl, ⟨rfl, ⟨rfl, ⟨rfl, ⟨rfl, ⟨rfl, trivial⟩⟩⟩⟩⟩⟩ ⟨rfl, ⟨rfl, ⟨rfl, trivial⟩⟩⟩
                  refine W_regL (WL_pure rfl rfl (by decide) (Pu_idZero rfl) (WL_pure rfl rfl (by decide) (Pu_fieldAddrB (off := 3) rfl rfl (by kernel_rfl)) (WL_cons0 rfl rfl (OpT_storeF (r := 101) rfl Try.sizeOf25 rfl rfl rfl rfl (by rw [nodeC_length ht]; decide) (bs_one _) (node_over ht zeroId_length) ?_))))
                  refine (WL_nil (X_then ?_))
                  refine W_seq ?_
                  refine W.pre (K' := [(0, _), (1, _), (2, _), (4, _), (7, _), (24, _)]) (L' := [(0, _), (101, _), (102, _)]) ?_ ⟨rfl, ⟨rfl, ⟨rfl, ⟨rfl, ⟨rfl, ⟨rfl, trivial⟩⟩⟩⟩⟩⟩ ⟨rfl, ⟨rfl, ⟨rfl, trivial⟩⟩⟩
                  refine W_regL (WL_pure rfl rfl (by decide) (Pu_loadBN (r := 101) rfl Try.isAgg27 Try.sizeOf27 rfl rfl (nodeC_length zeroId_length) (load_all (nodeC_length zeroId_length))) (WL_cons0 rfl rfl (OpT_storeAll (r := 102) rfl Try.sizeOf27 rfl rfl rfl rfl (nodeC_length zeroId_length) (one_node _ _ _ _) ?_)))
                  refine (WL_nil (X_then ?_))
                  refine W_ret ?_
                  exact X_ret [] (Ps := []) (resC1 (r := 102) Try.results16 rfl Try.isAgg27 Try.sizeOf27 rfl (nodeC_length zeroId_length)) rfl (by decide) ⟨by rw [nodeM, if_neg h0]; simp only [if_pos h5]; rfl, rfl⟩
                ·
                  have h5 := of_decide_eq_false hc24
                  refine W_skip (X_then ?_)
                  refine W_seq ?_
                  refine W.pre (K' := [(0, _), (1, _), (2, _), (4, _), (7, _), (24, _)]) (L' := [(0, _), (101, _), (102, _)]) ?_ ⟨rfl, ⟨rfl, ⟨rfl, ⟨rfl, ⟨rfl, ⟨rfl, trivial⟩⟩⟩⟩⟩⟩ ⟨rfl, ⟨rfl, ⟨rfl, trivial⟩⟩⟩
                  refine W_regL (WL_pure rfl rfl (by decide) (Pu_loadBN (r := 101) rfl Try.isAgg27 Try.sizeOf27 rfl rfl (nodeC_length ht) (load_all (nodeC_length ht))) (WL_cons0 rfl rfl (OpT_storeAll (r := 102) rfl Try.sizeOf27 rfl rfl rfl rfl (nodeC_length ht) (one_node _ _ _ _) ?_)))
                  refine (WL_nil (X_then ?_))
                  refine W_ret ?_
                  exact X_ret [] (Ps := []) (resC1 (r := 102) Try.results16 rfl Try.isAgg27 Try.sizeOf27 rfl (nodeC_length ht)) rfl (by decide) ⟨by rw [nodeM, if_neg h0]; simp only [if_neg h5]; rfl, rfl⟩
              exact AHs_nil
            exact AHs_nil
          exact AHs_nil
        exact AHs_nil
      refine AHs_cons rfl rfl rfl (by decide) (OpT_run (Pu_loadB (r := 101) rfl Try.isAgg3 rfl rfl rfl) ⟨⟨rfl, ⟨rfl, trivial⟩⟩, ?_⟩) ?_
      ·
        refine (AH_ready [2] (by kernel_rfl) (by decide) ?_)
        refine AHs_cons rfl rfl rfl (by decide) (OpT_call 200 [0, 101, 102] [] rfl Try.call8 rfl rfl rfl (by decide) (by decide) (within_spec k 2 (by omega) (by omega) _) (fun v11 Ps11 hR11 => ?_)) ?_
        ·
          obtain ⟨rfl, rfl⟩ := hR11
          refine ⟨⟨rfl, ⟨rfl, trivial⟩⟩, ?_⟩
          refine (AH_take 3 rfl (by kernel_rfl) (by kernel_rfl) (by kernel_rfl) rfl rfl (by decide) (Pu_bin rfl rfl rfl (run_add _ _ _ _ _ (by omega))) (AH_take 7 rfl (by kernel_rfl) (by kernel_rfl) (by kernel_rfl) rfl rfl (by decide) (Pu_fieldAddrB (off := 0) rfl rfl (by kernel_rfl)) (AH_ready [6] (by kernel_rfl) (by decide) ?_)))
          refine AHs_cons rfl rfl rfl (by decide) (OpT_call 300 [0, 101, 102] [] rfl Try.call8 rfl rfl rfl (by decide) (by decide) (within_spec s 5000 (by omega) (by omega) _) (fun v15 Ps15 hR15 => ?_)) ?_
          ·
            obtain ⟨rfl, rfl⟩ := hR15
            refine ⟨⟨rfl, ⟨rfl, trivial⟩⟩, ?_⟩
            refine (AH_ready [8] (by kernel_rfl) (by decide) ?_)
            refine AHs_cons0 rfl rfl rfl (OpT_storeB1 (r := 101) rfl Try.sizeOf3 rfl rfl rfl rfl (by rw [nodeC_length ht]; decide) (rfl : _ = nodeC (1 + k % 2) s l top) ?_) ?_
            ·
              refine ⟨⟨rfl, ⟨rfl, trivial⟩⟩, ?_⟩
              refine (AH_take 9 rfl (by kernel_rfl) (by kernel_rfl) (by kernel_rfl) rfl rfl (by decide) (Pu_fieldAddrB (off := 1) rfl rfl (by kernel_rfl)) (AH_ready [10] (by kernel_rfl) (by decide) ?_))
              refine AHs_cons0 rfl rfl rfl (OpT_storeB1 (r := 101) rfl Try.sizeOf3 rfl rfl rfl rfl (by rw [nodeC_length ht]; decide) (rfl : _ = nodeC (1 + k % 2) (s % 5000) l top) ?_) ?_
              ·
                refine ⟨⟨rfl, ⟨rfl, trivial⟩⟩, ?_⟩
                refine (AH_done (by kernel_rfl) (X_then ?_))
                refine W_seq ?_
                refine W.pre (K' := [(0, _), (1, _), (2, _), (4, _), (7, _)]) (L' := [(0, _), (101, _), (102, _)]) ?_ ⟨rfl, ⟨rfl, ⟨rfl, ⟨rfl, ⟨rfl, trivial⟩⟩⟩⟩⟩ ⟨rfl, ⟨rfl, ⟨rfl, trivial⟩⟩⟩
                refine W_regL (WL_pure rfl rfl (by decide) (Pu_fieldAddrB (off := 1) rfl rfl (by kernel_rfl)) (WL_pure rfl rfl (by decide) (Pu_loadB (r := 101) rfl Try.isAgg3 rfl rfl rfl) (WL_cons rfl rfl (by decide) (OpT_call 400 [0, 101, 102] [] rfl Try.call25 rfl rfl rfl (by decide) (by decide) (refLevels_spec (s % 5000) (by omega) _) (fun v20 Ps20 hR20 => ?_)))))
                obtain ⟨rfl, rfl⟩ := hR20
                refine (WL_pure rfl rfl (by decide) (Pu_fieldAddrB (off := 2) rfl rfl (by kernel_rfl)) (WL_cons0 rfl rfl (OpT_storeB1 (r := 101) rfl Try.sizeOf3 rfl rfl rfl rfl (by rw [nodeC_length ht]; decide) (rfl : _ = nodeC (1 + k % 2) (s % 5000) (lev (s % 5000) : Int) top) ?_)))
                refine (WL_nil (X_then ?_))
                refine W_seq ?_
                refine W_seq ?_
                refine W.pre (K' := [(0, _), (1, _), (2, _), (4, _), (7, _)]) (L' := [(0, _), (101, _), (102, _)]) ?_ ⟨rfl, ⟨rfl, ⟨rfl, ⟨rfl, ⟨rfl, trivial⟩⟩⟩⟩⟩ ⟨rfl, ⟨rfl, ⟨rfl, trivial⟩⟩⟩
                refine W_regL (WL_pure rfl rfl (by decide) (Pu_fieldAddrB (off := 1) rfl rfl (by kernel_rfl)) (WL_pure rfl rfl (by decide) (Pu_loadB (r := 101) rfl Try.isAgg3 rfl rfl rfl) (WL_pure rfl rfl (by decide) (Pu_bin rfl rfl rfl (run_eql _ _ _ _ _ _)) (WL_nil (X_then ?_)))))
                refine W_cond rfl (fun hc24 => ?_) (fun hc24 => ?_)
                ·
                  have h5 := of_decide_eq_true hc24
                  refine W.pre (K' := [(0, _), (1, _), (2, _), (4, _), (7, _), (24, _)]) (L' := [(0, _), (101, _), (102, _)]) ?_ ⟨rfl, ⟨rfl, ⟨rfl, ⟨rfl, ⟨rfl, ⟨rfl, trivial⟩⟩⟩⟩⟩⟩ ⟨rfl, ⟨rfl, ⟨rfl, trivial⟩⟩⟩
                  refine W_regL (WL_pure rfl rfl (by decide) (Pu_idZero rfl) (WL_pure rfl rfl (by decide) (Pu_fieldAddrB (off := 3) rfl rfl (by kernel_rfl)) (WL_cons0 rfl rfl (OpT_storeF (r := 101) rfl Try.sizeOf25 rfl rfl rfl rfl (by rw [nodeC_length ht]; decide) (bs_one _) (node_over ht zeroId_length) ?_))))
                  refine (WL_nil (X_then ?_))
                  refine W_seq ?_
                  refine W.pre (K' := [(0, _), (1, _), (2, _), (4, _), (7, _), (24, _)]) (L' := [(0, _), (101, _), (102, _)]) ?_ ⟨rfl, ⟨rfl, ⟨rfl, ⟨rfl, ⟨rfl, ⟨rfl, trivial⟩⟩⟩⟩⟩⟩ ⟨rfl, ⟨rfl, ⟨rfl, trivial⟩⟩⟩
                  refine W_regL (WL_pure rfl rfl (by decide) (Pu_loadBN (r := 101) rfl Try.isAgg27 Try.sizeOf27 rfl rfl (nodeC_length zeroId_length) (load_all (nodeC_length zeroId_length))) (WL_cons0 rfl rfl (OpT_storeAll (r := 102) rfl Try.sizeOf27 rfl rfl rfl rfl (nodeC_length zeroId_length) (one_node _ _ _ _) ?_)))
                  refine (WL_nil (X_then ?_))
                  refine W_ret ?_
                  exact X_ret [] (Ps := []) (resC1 (r := 102) Try.results16 rfl Try.isAgg27 Try.sizeOf27 rfl (nodeC_length zeroId_length)) rfl (by decide) ⟨by rw [nodeM, if_neg h0]; simp only [if_pos h5]; rfl, rfl⟩
                ·
                  have h5 := of_decide_eq_false hc24
                  refine W_skip (X_then ?_)
                  refine W_seq ?_
                  refine W.pre (K' := [(0, _), (1, _), (2, _), (4, _), (7, _), (24, _)]) (L' := [(0, _), (101, _), (102, _)]) ?_ ⟨rfl, ⟨rfl, ⟨rfl, ⟨rfl, ⟨rfl, ⟨rfl, trivial⟩⟩⟩⟩⟩⟩ ⟨rfl, ⟨rfl, ⟨rfl, trivial⟩⟩⟩
                  refine W_regL (WL_pure rfl rfl (by decide) (Pu_loadBN (r := 101) rfl Try.isAgg27 Try.sizeOf27 rfl rfl (nodeC_length ht) (load_all (nodeC_length ht))) (WL_cons0 rfl rfl (OpT_storeAll (r := 102) rfl Try.sizeOf27 rfl rfl rfl rfl (nodeC_length ht) (one_node _ _ _ _) ?_)))
                  refine (WL_nil (X_then ?_))
                  refine W_ret ?_
                  exact X_ret [] (Ps := []) (resC1 (r := 102) Try.results16 rfl Try.isAgg27 Try.sizeOf27 rfl (nodeC_length ht)) rfl (by decide) ⟨by rw [nodeM, if_neg h0]; simp only [if_neg h5]; rfl, rfl⟩
              exact AHs_nil
            exact AHs_nil
          exact AHs_nil
        exact AHs_nil
      exact AHs_nil
    refine AHs_cons rfl rfl rfl (by decide) (OpT_run (Pu_loadB (r := 101) rfl Try.isAgg3 rfl rfl rfl) ⟨⟨rfl, ⟨rfl, trivial⟩⟩, ?_⟩) ?_
    ·
      refine (AH_ready [1] (by kernel_rfl) (by decide) ?_)
      refine AHs_cons rfl rfl rfl (by decide) (OpT_run (Pu_loadB (r := 101) rfl Try.isAgg3 rfl rfl rfl) ⟨⟨rfl, ⟨rfl, trivial⟩⟩, ?_⟩) ?_
      ·
        refine (AH_ready [2] (by kernel_rfl) (by decide) ?_)
        refine AHs_cons rfl rfl rfl (by decide) (OpT_call 200 [0, 101, 102] [] rfl Try.call8 rfl rfl rfl (by decide) (by decide) (within_spec k 2 (by omega) (by omega) _) (fun v11 Ps11 hR11 => ?_)) ?_
        ·
          obtain ⟨rfl, rfl⟩ := hR11
          refine ⟨⟨rfl, ⟨rfl, trivial⟩⟩, ?_⟩
          refine (AH_take 3 rfl (by kernel_rfl) (by kernel_rfl) (by kernel_rfl) rfl rfl (by decide) (Pu_bin rfl rfl rfl (run_add _ _ _ _ _ (by omega))) (AH_take 7 rfl (by kernel_rfl) (by kernel_rfl) (by kernel_rfl) rfl rfl (by decide) (Pu_fieldAddrB (off := 0) rfl rfl (by kernel_rfl)) (AH_ready [6] (by kernel_rfl) (by decide) ?_)))
          refine AHs_cons rfl rfl rfl (by decide) (OpT_call 300 [0, 101, 102] [] rfl Try.call8 rfl rfl rfl (by decide) (by decide) (within_spec s 5000 (by omega) (by omega) _) (fun v15 Ps15 hR15 => ?_)) ?_
          ·
            obtain ⟨rfl, rfl⟩ := hR15
            refine ⟨⟨rfl, ⟨rfl, trivial⟩⟩, ?_⟩
            refine (AH_ready [8] (by kernel_rfl) (by decide) ?_)
            refine AHs_cons0 rfl rfl rfl (OpT_storeB1 (r := 101) rfl Try.sizeOf3 rfl rfl rfl rfl (by rw [nodeC_length ht]; decide) (rfl : _ = nodeC (1 + k % 2) s l top) ?_) ?_
            ·
              refine ⟨⟨rfl, ⟨rfl, trivial⟩⟩, ?_⟩
              refine (AH_take 9 rfl (by kernel_rfl) (by kernel_rfl) (by kernel_rfl) rfl rfl (by decide) (Pu_fieldAddrB (off := 1) rfl rfl (by kernel_rfl)) (AH_ready [10] (by kernel_rfl) (by decide) ?_))
              refine AHs_cons0 rfl rfl rfl (OpT_storeB1 (r := 101) rfl Try.sizeOf3 rfl rfl rfl rfl (by rw [nodeC_length ht]; decide) (rfl : _ = nodeC (1 + k % 2) (s % 5000) l top) ?_) ?_
              ·
                refine ⟨⟨rfl, ⟨rfl, trivial⟩⟩, ?_⟩
                refine (AH_done (by kernel_rfl) (X_then ?_))
                refine W_seq ?_
                refine W.pre (K' := [(0, _), (1, _), (2, _), (4, _), (7, _)]) (L' := [(0, _), (101, _), (102, _)]) ?_ ⟨rfl, ⟨rfl, ⟨rfl, ⟨rfl, ⟨rfl, trivial⟩⟩⟩⟩⟩ ⟨rfl, ⟨rfl, ⟨rfl, trivial⟩⟩⟩
                refine W_regL (WL_pure rfl rfl (by decide) (Pu_fieldAddrB (off := 1) rfl rfl (by kernel_rfl)) (WL_pure rfl rfl (by decide) (Pu_loadB (r := 101) rfl Try.isAgg3 rfl rfl rfl) (WL_cons rfl rfl (by decide) (OpT_call 400 [0, 101, 102] [] rfl Try.call25 rfl rfl rfl (by decide) (by decide) (refLevels_spec (s % 5000) (by omega) _) (fun v20 Ps20 hR20 => ?_)))))
                obtain ⟨rfl, rfl⟩ := hR20
                refine (WL_pure rfl rfl (by decide) (Pu_fieldAddrB (off := 2) rfl rfl (by kernel_rfl)) (WL_cons0 rfl rfl (OpT_storeB1 (r := 101) rfl Try.sizeOf3 rfl rfl rfl rfl (by rw [nodeC_length ht]; decide) (rfl : _ = nodeC (1 + k % 2) (s % 5000) (lev (s % 5000) : Int) top) ?_)))
                refine (WL_nil (X_then ?_))
                refine W_seq ?_
                refine W_seq ?_
                refine W.pre (K' := [(0, _), (1, _), (2, _), (4, _), (7, _)]) (L' := [(0, _), (101, _), (102, _)]) ?_ ⟨rfl, ⟨rfl, ⟨rfl, ⟨rfl, ⟨rfl, trivial⟩⟩⟩⟩⟩ ⟨rfl, ⟨rfl, ⟨rfl, trivial⟩⟩⟩
                refine W_regL (WL_pure rfl rfl (by decide) (Pu_fieldAddrB (off := 1) rfl rfl (by kernel_rfl)) (WL_pure rfl rfl (by decide) (Pu_loadB (r := 101) rfl Try.isAgg3 rfl rfl rfl) (WL_pure rfl rfl (by decide) (Pu_bin rfl rfl rfl (run_eql _ _ _ _ _ _)) (WL_nil (X_then ?_)))))
                refine W_cond rfl (fun hc24 => ?_) (fun hc24 => ?_)
                ·
                  have h5 := of_decide_eq_true hc24
                  refine W.pre (K' := [(0, _), (1, _), (2, _), (4, _), (7, _), (24, _)]) (L' := [(0, _), (101, _), (102, _)]) ?_ ⟨rfl, ⟨rfl, ⟨rfl, ⟨rfl, ⟨rfl, ⟨rfl, trivial⟩⟩⟩⟩⟩⟩ ⟨rfl, ⟨rfl, ⟨rfl, trivial⟩⟩⟩
                  refine W_regL (WL_pure rfl rfl (by decide) (Pu_idZero rfl) (WL_pure rfl rfl (by decide) (Pu_fieldAddrB (off := 3) rfl rfl (by kernel_rfl)) (WL_cons0 rfl rfl (OpT_storeF (r := 101) rfl Try.sizeOf25 rfl rfl rfl rfl (by rw [nodeC_length ht]; decide) (bs_one _) (node_over ht zeroId_length) ?_))))
                  refine (WL_nil (X_then ?_))
                  refine W_seq ?_
                  refine W.pre (K' := [(0, _), (1, _), (2, _), (4, _), (7, _), (24, _)]) (L' := [(0, _), (101, _), (102, _)]) ?_ ⟨rfl, ⟨rfl, ⟨rfl, ⟨rfl, ⟨rfl, ⟨rfl, trivial⟩⟩⟩⟩⟩⟩ ⟨rfl, ⟨rfl, ⟨rfl, trivial⟩⟩⟩
                  refine W_regL (WL_pure rfl rfl (by decide) (Pu_loadBN (r := 101) rfl Try.isAgg27 Try.sizeOf27 rfl rfl (nodeC_length zeroId_length) (load_all (nodeC_length zeroId_length))) (WL_cons0 rfl rfl (OpT_storeAll (r := 102) rfl Try.sizeOf27 rfl rfl rfl rfl (nodeC_length zeroId_length) (one_node _ _ _ _) ?_)))
                  refine (WL_nil (X_then ?_))
                  refine W_ret ?_
                  exact X_ret [] (Ps := []) (resC1 (r := 102) Try.results16 rfl Try.isAgg27 Try.sizeOf27 rfl (nodeC_length zeroId_length)) rfl (by decide) ⟨by rw [nodeM, if_neg h0]; simp only [if_pos h5]; rfl, rfl⟩
                ·
                  have h5 := of_decide_eq_false hc24
                  refine W_skip (X_then ?_)
                  refine W_seq ?_
                  refine W.pre (K' := [(0, _), (1, _), (2, _), (4, _), (7, _), (24, _)]) (L' := [(0, _), (101, _), (102, _)]) ?_ ⟨rfl, ⟨rfl, ⟨rfl, ⟨rfl, ⟨rfl, ⟨rfl, trivial⟩⟩⟩⟩⟩⟩ ⟨rfl, ⟨rfl, ⟨rfl, trivial⟩⟩⟩
                  refine W_regL (WL_pure rfl rfl (by decide) (Pu_loadBN (r := 101) rfl Try.isAgg27 Try.sizeOf27 rfl rfl (nodeC_length ht) (load_all (nodeC_length ht))) (WL_cons0 rfl rfl (OpT_storeAll (r := 102) rfl Try.sizeOf27 rfl rfl rfl rfl (nodeC_length ht) (one_node _ _ _ _) ?_)))
                  refine (WL_nil (X_then ?_))
                  refine W_ret ?_
                  exact X_ret [] (Ps := []) (resC1 (r := 102) Try.results16 rfl Try.isAgg27 Try.sizeOf27 rfl (nodeC_length ht)) rfl (by decide) ⟨by rw [nodeM, if_neg h0]; simp only [if_neg h5]; rfl, rfl⟩
              exact AHs_nil
            exact AHs_nil
          exact AHs_nil
        exact AHs_nil
      exact AHs_nil
    exact AHs_nil
end Go.Proofs.Ytnhidehpacidnaa
