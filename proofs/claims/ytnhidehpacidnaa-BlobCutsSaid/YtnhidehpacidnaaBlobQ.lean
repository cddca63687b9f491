/- Blocks: roots read. -/
import Derived.Test.YtnhidehpacidnaaBlobP
import Derived.Test.YtnhidehpacidnaaBlobD
import Derived.Test.YtnhidehpacidnaaBlob5
namespace Go.Proofs.Ytnhidehpacidnaa
open Go.RowKit
set_option linter.unusedVariables false

theorem parseRoot_spec (v : Value) (l : List UInt8) (hl : l.length ≤ 100000000) (F : HP) (hF : ∀ h, F h → rdB v l h) : CallsS Try.prog 21 #[v] F [] (fun r Ps => ∃ pv tv, r = .tuple #[rootV pv (pRoot l).ver (pRoot l).top tv, .int .i64 (pRootE l)] ∧ Ps = [rowB 5 pv (pRoot l).pl, rowB 5 tv (pRoot l).tl]) := by
  refine callsS_enter Try.func21 rfl Try.ntmps21 (by simp) (fun E => ?_)
  refine W_seq ?_
  refine W.pre (K' := [(0, _)]) (L' := [(0, _)]) ?_ ⟨rfl, trivial⟩ ⟨rfl, trivial⟩
  refine W_regL (WL_cons rfl rfl (by decide) (OpT_alloc (r := 101) rfl (zero_run (by kernel_rfl : (Try.prog.info? 56).bind (·.zero) = some (.agg (rootC (.slice none 0 0) 0 zeroId (.slice none 0 0)).toArray))) rfl (fun g101 => (WL_pure rfl rfl (by decide) (Pu_assign rfl rfl) (WL_nil (X_then ?_))))))
  refine W_seq ?_
  refine W_seq ?_
  refine W.pre (K' := [(0, _), (2, _), (3, _)]) (L' := [(0, _), (101, _)]) ?_ ⟨rfl, ⟨rfl, ⟨rfl, trivial⟩⟩⟩ ⟨rfl, ⟨rfl, trivial⟩⟩
  refine W_regL (WL_pure rfl rfl (by decide) (Pu_move rfl rfl) (WL_pure rfl rfl (by decide) (Pu_len (r := 0) rfl Try.runUnderlying28 rfl rfl hF) (WL_pure rfl rfl (by decide) (Pu_bin rfl rfl rfl (run_lss _ _ _ _ _ _)) (WL_nil (X_then ?_)))))
  refine W_cond rfl (fun hc8 => ?_) (fun hc8 => ?_)
  ·
    have h95 := of_decide_eq_true hc8
    refine W_seq ?_
    refine W.pre (K' := [(0, _), (2, _), (3, _), (8, _)]) (L' := [(0, _), (101, _)]) ?_ ⟨rfl, ⟨rfl, ⟨rfl, ⟨rfl, trivial⟩⟩⟩⟩ ⟨rfl, ⟨rfl, trivial⟩⟩
    refine W_regL (WL_pure rfl rfl (by decide) (Pu_build (V := rootV nilS 0 zeroId nilS) [(0, 1), (1, 1), (2, 32), (34, 1)] (rootC (.slice none 0 0) 0 zeroId (.slice none 0 0)) rfl rfl (by kernel_rfl) (by kernel_rfl) (.nil _) rfl) (WL_cons0 rfl rfl (OpT_storeAll (r := 101) rfl Try.sizeOf56 rfl rfl rfl rfl rfl (one_root rfl rfl) ?_)))
    refine (WL_pure rfl rfl (by decide) (Pu_assign rfl rfl) (WL_nil (X_then ?_)))
    refine W_ret (X_then_ret ?_)
    have hE := pRootE_cut h95
    refine X_nilRow 9900 5 1 (X_nilRow 9901 5 1 ?_)
    exact X_ret [9900, 9901] (Ps := [_, _]) (resC2 (r := 101) Try.results21 rfl rfl Try.isAgg56 Try.sizeOf56 rfl (rootC_length zeroId_length)) rfl (by decide) ⟨nilS, nilS, by rw [hE, pRoot_err hE (by decide)]; rfl, by rw [pRoot_err hE (by decide)]; rfl⟩
  ·
    have h95 : 95 ≤ l.length := by have := of_decide_eq_false hc8; omega
    have htop : ((l.drop 61).take 32).length = 32 := by simp; omega
    have h56 : ((l.drop 1).take 56).length = 56 := by simp; omega
    have hv2 := val_lt (l.drop 93) 2
    refine W_skip (X_then ?_)
    refine W_seq ?_
    refine W.pre (K' := [(0, _), (2, _), (3, _), (8, _)]) (L' := [(0, _), (101, _)]) ?_ ⟨rfl, ⟨rfl, ⟨rfl, ⟨rfl, trivial⟩⟩⟩⟩ ⟨rfl, ⟨rfl, trivial⟩⟩
    refine W_draw (N := 9) (by kernel_rfl) rfl [(0, _), (101, _)] ⟨rfl, ⟨rfl, trivial⟩⟩ ?_
    refine (AH_take 0 rfl (by kernel_rfl) (by kernel_rfl) (by kernel_rfl) rfl rfl (by decide) (Pu_move rfl rfl) (AH_take 1 rfl (by kernel_rfl) (by kernel_rfl) (by kernel_rfl) rfl rfl (by decide) (Pu_slice (r := 0) (a := 1) (b := 57) rfl Try.runUnderlying28 Try.sizeOf5 rfl rfl hF (.inr ⟨_, _, _, rfl, rfl, rfl⟩) (.inr ⟨_, _, _, rfl, rfl, rfl⟩) (by omega) (by omega)) (AH_take 3 rfl (by kernel_rfl) (by kernel_rfl) (by kernel_rfl) rfl rfl (by decide) (Pu_move rfl rfl) (AH_take 4 rfl (by kernel_rfl) (by kernel_rfl) (by kernel_rfl) rfl rfl (by decide) (Pu_slice (r := 0) (a := 57) (b := 61) rfl Try.runUnderlying28 Try.sizeOf5 rfl rfl hF (.inr ⟨_, _, _, rfl, rfl, rfl⟩) (.inr ⟨_, _, _, rfl, rfl, rfl⟩) (by omega) (by omega)) (AH_ready [2, 7] (by kernel_rfl) (by decide) ?_)))))
    refine AHs_cons rfl rfl rfl (by decide) (OpT_call 200 [0, 101] [] rfl Try.call31 rfl rfl rfl (by decide) (by decide) (clone_spec _ ((l.drop 1).take 56) (by rw [h56]; omega) _ (rd_star 0 rfl (fun h hp => rdB_sub (hF h hp) (by omega) (by omega)))) (fun v12 Ps12 hR12 => ?_)) ?_
    ·
      obtain ⟨ho12, rfl⟩ := hR12
      refine ⟨⟨rfl, ⟨rfl, trivial⟩⟩, ?_⟩
      skip
      refine (AH_ready [5, 7] (by kernel_rfl) (by decide) ?_)
      refine AHs_cons rfl rfl rfl (by decide) (OpT_call 300 [0, 101, 200] [] rfl Try.call28 rfl rfl rfl (by decide) (by decide) (numbered_spec2 _ (l.drop 57) 4 _ (rd_star 0 rfl (fun h hp => rdB_sub (hF h hp) (by omega) (by omega))) (by simp; omega) (by omega)) (fun v15 Ps15 hR15 => ?_)) ?_
      ·
        obtain ⟨rfl, rfl⟩ := hR15
        refine ⟨⟨rfl, ⟨rfl, trivial⟩⟩, ?_⟩
        refine (AH_take 6 rfl (by kernel_rfl) (by kernel_rfl) (by kernel_rfl) rfl rfl (by decide) (Pu_build (V := rootV v12 (val (l.drop 57) 4) zeroId nilS) [(0, 1), (1, 1), (2, 32), (34, 1)] (rootC (.slice none 0 0) 0 zeroId (.slice none 0 0)) rfl rfl (by kernel_rfl) (by kernel_rfl) (.one rfl ho12 (by simp [rootC, bs_length, zeroId_length]) rfl (.one rfl rfl (by simp [rootC, bs_length, zeroId_length]) rfl (.nil _))) rfl) (AH_ready [7] (by kernel_rfl) (by decide) ?_))
        refine AHs_cons rfl rfl rfl (by decide) (OpT_alloc (r := 301) rfl (zero_run (by kernel_rfl : (Try.prog.info? 56).bind (·.zero) = some (.agg (rootC (.slice none 0 0) 0 zeroId (.slice none 0 0)).toArray))) rfl (fun g301 => ⟨⟨rfl, ⟨rfl, trivial⟩⟩, ?_⟩)) ?_
        ·
          refine (AH_ready [8] (by kernel_rfl) (by decide) ?_)
          refine AHs_cons0 rfl rfl rfl (OpT_storeAll (r := 301) rfl Try.sizeOf56 rfl rfl rfl rfl rfl (one_root ho12 rfl) ?_) ?_
          ·
            refine ⟨⟨rfl, ⟨rfl, trivial⟩⟩, ?_⟩
            refine (AH_done (by kernel_rfl) (X_then ?_))
            refine W_seq ?_
            refine W.pre (K' := [(0, _), (2, _), (3, _), (4, _), (8, _)]) (L' := [(0, _), (101, _), (200, _), (301, _)]) ?_ ⟨rfl, ⟨rfl, ⟨rfl, ⟨rfl, ⟨rfl, trivial⟩⟩⟩⟩⟩ ⟨rfl, ⟨rfl, ⟨rfl, ⟨rfl, trivial⟩⟩⟩⟩
            refine W_draw (N := 5) (by kernel_rfl) rfl [(0, _), (101, _)] ⟨rfl, ⟨rfl, trivial⟩⟩ ?_
            refine (AH_take 0 rfl (by kernel_rfl) (by kernel_rfl) (by kernel_rfl) rfl rfl (by decide) (Pu_fieldAddrB (off := 2) rfl rfl (by kernel_rfl)) (AH_take 1 rfl (by kernel_rfl) (by kernel_rfl) (by kernel_rfl) rfl rfl (by decide) (Pu_sliceArr rfl Try.runUnderlying25 Try.sizeOf5 rfl) (AH_take 2 rfl (by kernel_rfl) (by kernel_rfl) (by kernel_rfl) rfl rfl (by decide) (Pu_move rfl rfl) (AH_take 3 rfl (by kernel_rfl) (by kernel_rfl) (by kernel_rfl) rfl rfl (by decide) (Pu_slice (r := 0) (a := 61) (b := l.length) rfl Try.runUnderlying28 Try.sizeOf5 rfl rfl hF (.inr ⟨_, _, _, rfl, rfl, rfl⟩) (.inl ⟨rfl, rfl⟩) (by omega) (Nat.le_refl _)) (AH_ready [4] (by kernel_rfl) (by decide) ?_)))))
            refine AHs_cons rfl rfl rfl (by decide) (OpT_copyB (r := 301) (r2 := 0) rfl Try.underlying28 TI.hsm5 rfl rfl rfl rfl (fun h hp => rdB_tail (hF h hp) (by omega)) (bs_one _) (by rw [rootC_length zeroId_length]; simp; omega) (root_copy zeroId_length (b := l.drop 61) (by simp; omega)) ?_) ?_
            ·
              refine ⟨⟨rfl, ⟨rfl, trivial⟩⟩, ?_⟩
              refine (AH_done (by kernel_rfl) (X_then ?_))
              refine W_seq ?_
              refine W.pre (K' := [(0, _), (2, _), (3, _), (4, _), (8, _)]) (L' := [(0, _), (101, _), (200, _), (301, _)]) ?_ ⟨rfl, ⟨rfl, ⟨rfl, ⟨rfl, ⟨rfl, trivial⟩⟩⟩⟩⟩ ⟨rfl, ⟨rfl, ⟨rfl, ⟨rfl, trivial⟩⟩⟩⟩
              refine W_regL (WL_pure rfl rfl (by decide) (Pu_move rfl rfl) (WL_pure rfl rfl (by decide) (Pu_slice (r := 0) (a := 93) (b := 95) rfl Try.runUnderlying28 Try.sizeOf5 rfl rfl hF (.inr ⟨_, _, _, rfl, rfl, rfl⟩) (.inr ⟨_, _, _, rfl, rfl, rfl⟩) (by omega) (by omega)) (WL_cons rfl rfl (by decide) (OpT_call 400 [0, 101, 200, 301] [] rfl Try.call28 rfl rfl rfl (by decide) (by decide) (numbered_spec2 _ (l.drop 93) 2 _ (rd_star 0 rfl (fun h hp => rdB_sub (hF h hp) (by omega) (by omega))) (by simp; omega) (by omega)) (fun v24 Ps24 hR24 => ?_)))))
              obtain ⟨rfl, rfl⟩ := hR24
              refine (WL_pure rfl rfl (by decide) (Pu_assign rfl rfl) (WL_nil (X_then ?_)))
              refine W_seq ?_
              refine W_block ?_
              refine W_seq ?_
              refine W.pre (K' := [(0, _), (2, _), (3, _), (4, _), (5, _), (8, _)]) (L' := [(0, _), (101, _), (200, _), (301, _)]) ?_ ⟨rfl, ⟨rfl, ⟨rfl, ⟨rfl, ⟨rfl, ⟨rfl, trivial⟩⟩⟩⟩⟩⟩ ⟨rfl, ⟨rfl, ⟨rfl, ⟨rfl, trivial⟩⟩⟩⟩
              refine W_regL (WL_pure rfl rfl (by decide) (Pu_move rfl rfl) (WL_pure rfl rfl (by decide) (Pu_idxS1 (r := 0) rfl Try.runUnderlying28 Try.sizeOf5 rfl rfl rfl hF (by omega)) (WL_pure rfl rfl (by decide) (Pu_loadS (r := 0) rfl Try.isAgg5 rfl rfl hF (bs_at1 (k := 0) (by omega))) (WL_pure rfl rfl (by decide) (Pu_bin rfl rfl rfl (run_neq _ _ _ _ _ _)) (WL_pure rfl rfl (by decide) (Pu_move rfl rfl) (WL_guardP rfl rfl rfl rfl (by decide) (fun hb => (Pu_fieldAddrB (off := 1) rfl rfl (by kernel_rfl))) (WL_guardP rfl rfl rfl rfl (by decide) (fun hb => (Pu_loadB (r := 301) rfl Try.isAgg3 (ev_gv rfl hb) rfl rfl)) (WL_guardP rfl rfl rfl rfl (by decide) (fun hb => (Pu_bin rfl (ev_gv rfl hb) rfl (run_lss _ _ _ _ _ _))) (WL_pure rfl rfl (by decide) (Pu_or rfl rfl rfl) (WL_pure rfl rfl (by decide) (Pu_move rfl rfl) (WL_guardP rfl rfl rfl rfl (by decide) (fun hb => (Pu_fieldAddrB (off := 1) rfl rfl (by kernel_rfl))) (WL_guardP rfl rfl rfl rfl (by decide) (fun hb => (Pu_loadB (r := 301) rfl Try.isAgg3 (ev_gv rfl hb) rfl rfl)) (WL_guardP rfl rfl rfl rfl (by decide) (fun hb => (Pu_bin rfl (ev_gv rfl hb) rfl (run_gtr _ _ _ _ _ _))) (WL_pure rfl rfl (by decide) (Pu_or rfl rfl rfl) (WL_pure rfl rfl (by decide) (Pu_move rfl rfl) (WL_guardP rfl rfl rfl rfl (by decide) (fun hb => (Pu_move rfl rfl)) (WL_guardP rfl rfl rfl rfl (by decide) (fun hb => (Pu_bin rfl (ev_gv rfl hb) rfl (run_gtr _ _ _ _ _ _))) (WL_pure rfl rfl (by decide) (Pu_or rfl rfl rfl) (WL_pure rfl rfl (by decide) (Pu_assign rfl rfl) (WL_nil (X_then ?_)))))))))))))))))))))
              refine W_cond rfl (fun hc25 => ?_) (fun hc25 => ?_)
              ·
                rw [pRootBad_of] at hc25
                refine W_seq ?_
                refine W.pre (K' := [(0, _), (2, _), (3, _), (4, _), (5, _), (8, _), (25, _)]) (L' := [(0, _), (101, _), (200, _), (301, _)]) ?_ ⟨rfl, ⟨rfl, ⟨rfl, ⟨rfl, ⟨rfl, ⟨rfl, ⟨rfl, trivial⟩⟩⟩⟩⟩⟩⟩ ⟨rfl, ⟨rfl, ⟨rfl, ⟨rfl, trivial⟩⟩⟩⟩
                refine W_regL (WL_pure rfl rfl (by decide) (Pu_build (V := rootV nilS 0 zeroId nilS) [(0, 1), (1, 1), (2, 32), (34, 1)] (rootC (.slice none 0 0) 0 zeroId (.slice none 0 0)) rfl rfl (by kernel_rfl) (by kernel_rfl) (.nil _) rfl) (WL_cons0 rfl rfl (OpT_storeAll (r := 101) rfl Try.sizeOf56 rfl rfl rfl rfl rfl (one_root rfl rfl) ?_)))
                refine (WL_pure rfl rfl (by decide) (Pu_assign rfl rfl) (WL_nil (X_then ?_)))
                refine W_ret (X_block_ret (X_then_ret ?_))
                have hE := pRootE_bad h95 hc25
                refine X_nilRow 9900 5 1 (X_nilRow 9901 5 1 ?_)
                exact X_ret [9900, 9901] (Ps := [_, _]) (resC2 (r := 101) Try.results21 rfl rfl Try.isAgg56 Try.sizeOf56 rfl (rootC_length zeroId_length)) rfl (by decide) ⟨nilS, nilS, by rw [hE, pRoot_err hE (by decide)]; rfl, by rw [pRoot_err hE (by decide)]; rfl⟩
              ·
                rw [pRootBad_of] at hc25
                have hE0 := pRootE_later h95 hc25
                refine W_seq ?_
                refine W.pre (K' := [(0, _), (2, _), (3, _), (4, _), (5, _), (8, _), (25, _)]) (L' := [(0, _), (101, _), (200, _), (301, _)]) ?_ ⟨rfl, ⟨rfl, ⟨rfl, ⟨rfl, ⟨rfl, ⟨rfl, ⟨rfl, trivial⟩⟩⟩⟩⟩⟩⟩ ⟨rfl, ⟨rfl, ⟨rfl, ⟨rfl, trivial⟩⟩⟩⟩
                refine W_regL (WL_pure rfl rfl (by decide) (Pu_move rfl rfl) (WL_pure rfl rfl (by decide) (Pu_len (r := 0) rfl Try.runUnderlying28 rfl rfl hF) (WL_pure rfl rfl (by decide) (Pu_move rfl rfl) (WL_pure rfl rfl (by decide) (Pu_bin rfl rfl rfl (run_add _ _ _ _ _ (by omega))) (WL_pure rfl rfl (by decide) (Pu_bin rfl rfl rfl (run_lss _ _ _ _ _ _)) (WL_pure rfl rfl (by decide) (Pu_assign rfl rfl) (WL_nil (X_then ?_))))))))
                refine W_cond rfl (fun hc45 => ?_) (fun hc45 => ?_)
                ·
                  have g1 := of_decide_eq_true hc45
                  refine W_seq ?_
                  refine W.pre (K' := [(0, _), (2, _), (3, _), (4, _), (5, _), (8, _), (25, _), (45, _)]) (L' := [(0, _), (101, _), (200, _), (301, _)]) ?_ ⟨rfl, ⟨rfl, ⟨rfl, ⟨rfl, ⟨rfl, ⟨rfl, ⟨rfl, ⟨rfl, trivial⟩⟩⟩⟩⟩⟩⟩⟩ ⟨rfl, ⟨rfl, ⟨rfl, ⟨rfl, trivial⟩⟩⟩⟩
                  refine W_regL (WL_pure rfl rfl (by decide) (Pu_build (V := rootV nilS 0 zeroId nilS) [(0, 1), (1, 1), (2, 32), (34, 1)] (rootC (.slice none 0 0) 0 zeroId (.slice none 0 0)) rfl rfl (by kernel_rfl) (by kernel_rfl) (.nil _) rfl) (WL_cons0 rfl rfl (OpT_storeAll (r := 101) rfl Try.sizeOf56 rfl rfl rfl rfl rfl (one_root rfl rfl) ?_)))
                  refine (WL_pure rfl rfl (by decide) (Pu_assign rfl rfl) (WL_nil (X_then ?_)))
                  refine W_ret (X_block_ret (X_then_ret ?_))
                  have hE := hE0.trans (if_pos (by omega))
                  refine X_nilRow 9900 5 1 (X_nilRow 9901 5 1 ?_)
                  exact X_ret [9900, 9901] (Ps := [_, _]) (resC2 (r := 101) Try.results21 rfl rfl Try.isAgg56 Try.sizeOf56 rfl (rootC_length zeroId_length)) rfl (by decide) ⟨nilS, nilS, by rw [hE, pRoot_err hE (by decide)]; rfl, by rw [pRoot_err hE (by decide)]; rfl⟩
                ·
                  have g1 := of_decide_eq_false hc45
                  refine W_seq ?_
                  refine W.pre (K' := [(0, _), (2, _), (3, _), (4, _), (5, _), (8, _), (25, _), (45, _)]) (L' := [(0, _), (101, _), (200, _), (301, _)]) ?_ ⟨rfl, ⟨rfl, ⟨rfl, ⟨rfl, ⟨rfl, ⟨rfl, ⟨rfl, ⟨rfl, trivial⟩⟩⟩⟩⟩⟩⟩⟩ ⟨rfl, ⟨rfl, ⟨rfl, ⟨rfl, trivial⟩⟩⟩⟩
                  refine W_regL (WL_pure rfl rfl (by decide) (Pu_move rfl rfl) (WL_pure rfl rfl (by decide) (Pu_len (r := 0) rfl Try.runUnderlying28 rfl rfl hF) (WL_pure rfl rfl (by decide) (Pu_move rfl rfl) (WL_pure rfl rfl (by decide) (Pu_bin rfl rfl rfl (run_add _ _ _ _ _ (by omega))) (WL_pure rfl rfl (by decide) (Pu_bin rfl rfl rfl (run_gtr _ _ _ _ _ _)) (WL_pure rfl rfl (by decide) (Pu_assign rfl rfl) (WL_nil (X_then ?_))))))))
                  refine W_cond rfl (fun hc52 => ?_) (fun hc52 => ?_)
                  ·
                    have g2 := of_decide_eq_true hc52
                    refine W_seq ?_
                    refine W.pre (K' := [(0, _), (2, _), (3, _), (4, _), (5, _), (8, _), (25, _), (45, _), (52, _)]) (L' := [(0, _), (101, _), (200, _), (301, _)]) ?_ ⟨rfl, ⟨rfl, ⟨rfl, ⟨rfl, ⟨rfl, ⟨rfl, ⟨rfl, ⟨rfl, ⟨rfl, trivial⟩⟩⟩⟩⟩⟩⟩⟩⟩ ⟨rfl, ⟨rfl, ⟨rfl, ⟨rfl, trivial⟩⟩⟩⟩
                    refine W_regL (WL_pure rfl rfl (by decide) (Pu_build (V := rootV nilS 0 zeroId nilS) [(0, 1), (1, 1), (2, 32), (34, 1)] (rootC (.slice none 0 0) 0 zeroId (.slice none 0 0)) rfl rfl (by kernel_rfl) (by kernel_rfl) (.nil _) rfl) (WL_cons0 rfl rfl (OpT_storeAll (r := 101) rfl Try.sizeOf56 rfl rfl rfl rfl rfl (one_root rfl rfl) ?_)))
                    refine (WL_pure rfl rfl (by decide) (Pu_assign rfl rfl) (WL_nil (X_then ?_)))
                    refine W_ret (X_block_ret (X_then_ret ?_))
                    have hE := hE0.trans ((if_neg (by omega)).trans (if_pos (by omega)))
                    refine X_nilRow 9900 5 1 (X_nilRow 9901 5 1 ?_)
                    exact X_ret [9900, 9901] (Ps := [_, _]) (resC2 (r := 101) Try.results21 rfl rfl Try.isAgg56 Try.sizeOf56 rfl (rootC_length zeroId_length)) rfl (by decide) ⟨nilS, nilS, by rw [hE, pRoot_err hE (by decide)]; rfl, by rw [pRoot_err hE (by decide)]; rfl⟩
                  ·
                    have g2 := of_decide_eq_false hc52
                    refine W_skip (X_block (X_then ?_))
                    refine W_seq ?_
                    refine W.pre (K' := [(0, _), (2, _), (3, _), (4, _), (5, _), (8, _), (25, _), (45, _), (52, _)]) (L' := [(0, _), (101, _), (200, _), (301, _)]) ?_ ⟨rfl, ⟨rfl, ⟨rfl, ⟨rfl, ⟨rfl, ⟨rfl, ⟨rfl, ⟨rfl, ⟨rfl, trivial⟩⟩⟩⟩⟩⟩⟩⟩⟩ ⟨rfl, ⟨rfl, ⟨rfl, ⟨rfl, trivial⟩⟩⟩⟩
                    refine W_regL (WL_pure rfl rfl (by decide) (Pu_move rfl rfl) (WL_pure rfl rfl (by decide) (Pu_slice (r := 0) (a := 95) (b := l.length) rfl Try.runUnderlying28 Try.sizeOf5 rfl rfl hF (.inr ⟨_, _, _, rfl, rfl, rfl⟩) (.inl ⟨rfl, rfl⟩) (by omega) (Nat.le_refl _)) (WL_cons rfl rfl (by decide) (OpT_call 500 [0, 101, 200, 301] [] rfl Try.call31 rfl rfl rfl (by decide) (by decide) (clone_spec _ (l.drop 95) (by simp; omega) _ (rd_star 0 rfl (fun h hp => rdB_tail (hF h hp) (by omega)))) (fun v61 Ps61 hR61 => ?_)))))
                    obtain ⟨ho61, rfl⟩ := hR61
                    skip
                    refine (WL_pure rfl rfl (by decide) (Pu_fieldAddrB (off := 34) rfl rfl (by kernel_rfl)) (WL_cons0 rfl rfl (OpT_storeB1 (r := 301) rfl Try.sizeOf28 rfl rfl rfl ho61 (by rw [rootC_length htop]; decide) (root_set htop) ?_)))
                    refine (WL_nil (X_then ?_))
                    refine W_seq ?_
                    refine W.pre (K' := [(0, _), (2, _), (3, _), (4, _), (5, _), (8, _), (25, _), (45, _), (52, _)]) (L' := [(0, _), (101, _), (200, _), (301, _), (500, _)]) ?_ ⟨rfl, ⟨rfl, ⟨rfl, ⟨rfl, ⟨rfl, ⟨rfl, ⟨rfl, ⟨rfl, ⟨rfl, trivial⟩⟩⟩⟩⟩⟩⟩⟩⟩ ⟨rfl, ⟨rfl, ⟨rfl, ⟨rfl, ⟨rfl, trivial⟩⟩⟩⟩⟩
                    refine W_regL (WL_pure rfl rfl (by decide) (Pu_loadBN (r := 301) rfl Try.isAgg56 Try.sizeOf56 rfl rfl (rootC_length htop) (load_all (rootC_length htop))) (WL_cons0 rfl rfl (OpT_storeAll (r := 101) rfl Try.sizeOf56 rfl rfl rfl rfl (rootC_length htop) (one_root ho12 ho61) ?_)))
                    refine (WL_pure rfl rfl (by decide) (Pu_assign rfl rfl) (WL_nil (X_then ?_)))
                    refine W_ret ?_
                    have hE := hE0.trans ((if_neg (by omega)).trans (if_neg (by omega)))
                    have hR : pRoot l = ⟨(l.drop 1).take 56, val (l.drop 57) 4, (l.drop 61).take 32, l.drop 95⟩ := by unfold pRoot; rw [if_pos hE]
                    exact X_ret [200, 500] (Ps := [_, _]) (resC2 (r := 101) Try.results21 rfl rfl Try.isAgg56 Try.sizeOf56 rfl (rootC_length htop)) rfl (by decide) ⟨v12, v61, by rw [hE, hR]; rfl, by rw [hR]⟩
            exact AHs_nil
          exact AHs_nil
        exact AHs_nil
      refine AHs_cons rfl rfl rfl (by decide) (OpT_alloc (r := 201) rfl (zero_run (by kernel_rfl : (Try.prog.info? 56).bind (·.zero) = some (.agg (rootC (.slice none 0 0) 0 zeroId (.slice none 0 0)).toArray))) rfl (fun g201 => ⟨⟨rfl, ⟨rfl, trivial⟩⟩, ?_⟩)) ?_
      ·
        refine (AH_ready [5] (by kernel_rfl) (by decide) ?_)
        refine AHs_cons rfl rfl rfl (by decide) (OpT_call 300 [0, 101, 200, 201] [] rfl Try.call28 rfl rfl rfl (by decide) (by decide) (numbered_spec2 _ (l.drop 57) 4 _ (rd_star 0 rfl (fun h hp => rdB_sub (hF h hp) (by omega) (by omega))) (by simp; omega) (by omega)) (fun v15 Ps15 hR15 => ?_)) ?_
        ·
          obtain ⟨rfl, rfl⟩ := hR15
          refine ⟨⟨rfl, ⟨rfl, trivial⟩⟩, ?_⟩
          refine (AH_take 6 rfl (by kernel_rfl) (by kernel_rfl) (by kernel_rfl) rfl rfl (by decide) (Pu_build (V := rootV v12 (val (l.drop 57) 4) zeroId nilS) [(0, 1), (1, 1), (2, 32), (34, 1)] (rootC (.slice none 0 0) 0 zeroId (.slice none 0 0)) rfl rfl (by kernel_rfl) (by kernel_rfl) (.one rfl ho12 (by simp [rootC, bs_length, zeroId_length]) rfl (.one rfl rfl (by simp [rootC, bs_length, zeroId_length]) rfl (.nil _))) rfl) (AH_ready [8] (by kernel_rfl) (by decide) ?_))
          refine AHs_cons0 rfl rfl rfl (OpT_storeAll (r := 201) rfl Try.sizeOf56 rfl rfl rfl rfl rfl (one_root ho12 rfl) ?_) ?_
          ·
            refine ⟨⟨rfl, ⟨rfl, trivial⟩⟩, ?_⟩
            refine (AH_done (by kernel_rfl) (X_then ?_))
            refine W_seq ?_
            refine W.pre (K' := [(0, _), (2, _), (3, _), (4, _), (8, _)]) (L' := [(0, _), (101, _), (200, _), (201, _)]) ?_ ⟨rfl, ⟨rfl, ⟨rfl, ⟨rfl, ⟨rfl, trivial⟩⟩⟩⟩⟩ ⟨rfl, ⟨rfl, ⟨rfl, ⟨rfl, trivial⟩⟩⟩⟩
            refine W_draw (N := 5) (by kernel_rfl) rfl [(0, _), (101, _)] ⟨rfl, ⟨rfl, trivial⟩⟩ ?_
            refine (AH_take 0 rfl (by kernel_rfl) (by kernel_rfl) (by kernel_rfl) rfl rfl (by decide) (Pu_fieldAddrB (off := 2) rfl rfl (by kernel_rfl)) (AH_take 1 rfl (by kernel_rfl) (by kernel_rfl) (by kernel_rfl) rfl rfl (by decide) (Pu_sliceArr rfl Try.runUnderlying25 Try.sizeOf5 rfl) (AH_take 2 rfl (by kernel_rfl) (by kernel_rfl) (by kernel_rfl) rfl rfl (by decide) (Pu_move rfl rfl) (AH_take 3 rfl (by kernel_rfl) (by kernel_rfl) (by kernel_rfl) rfl rfl (by decide) (Pu_slice (r := 0) (a := 61) (b := l.length) rfl Try.runUnderlying28 Try.sizeOf5 rfl rfl hF (.inr ⟨_, _, _, rfl, rfl, rfl⟩) (.inl ⟨rfl, rfl⟩) (by omega) (Nat.le_refl _)) (AH_ready [4] (by kernel_rfl) (by decide) ?_)))))
            refine AHs_cons rfl rfl rfl (by decide) (OpT_copyB (r := 201) (r2 := 0) rfl Try.underlying28 TI.hsm5 rfl rfl rfl rfl (fun h hp => rdB_tail (hF h hp) (by omega)) (bs_one _) (by rw [rootC_length zeroId_length]; simp; omega) (root_copy zeroId_length (b := l.drop 61) (by simp; omega)) ?_) ?_
            ·
              refine ⟨⟨rfl, ⟨rfl, trivial⟩⟩, ?_⟩
              refine (AH_done (by kernel_rfl) (X_then ?_))
              refine W_seq ?_
              refine W.pre (K' := [(0, _), (2, _), (3, _), (4, _), (8, _)]) (L' := [(0, _), (101, _), (200, _), (201, _)]) ?_ ⟨rfl, ⟨rfl, ⟨rfl, ⟨rfl, ⟨rfl, trivial⟩⟩⟩⟩⟩ ⟨rfl, ⟨rfl, ⟨rfl, ⟨rfl, trivial⟩⟩⟩⟩
              refine W_regL (WL_pure rfl rfl (by decide) (Pu_move rfl rfl) (WL_pure rfl rfl (by decide) (Pu_slice (r := 0) (a := 93) (b := 95) rfl Try.runUnderlying28 Try.sizeOf5 rfl rfl hF (.inr ⟨_, _, _, rfl, rfl, rfl⟩) (.inr ⟨_, _, _, rfl, rfl, rfl⟩) (by omega) (by omega)) (WL_cons rfl rfl (by decide) (OpT_call 400 [0, 101, 200, 201] [] rfl Try.call28 rfl rfl rfl (by decide) (by decide) (numbered_spec2 _ (l.drop 93) 2 _ (rd_star 0 rfl (fun h hp => rdB_sub (hF h hp) (by omega) (by omega))) (by simp; omega) (by omega)) (fun v24 Ps24 hR24 => ?_)))))
              obtain ⟨rfl, rfl⟩ := hR24
              refine (WL_pure rfl rfl (by decide) (Pu_assign rfl rfl) (WL_nil (X_then ?_)))
              refine W_seq ?_
              refine W_block ?_
              refine W_seq ?_
              refine W.pre (K' := [(0, _), (2, _), (3, _), (4, _), (5, _), (8, _)]) (L' := [(0, _), (101, _), (200, _), (201, _)]) ?_ ⟨rfl, ⟨rfl, ⟨rfl, ⟨rfl, ⟨rfl, ⟨rfl, trivial⟩⟩⟩⟩⟩⟩ ⟨rfl, ⟨rfl, ⟨rfl, ⟨rfl, trivial⟩⟩⟩⟩
              refine W_regL (WL_pure rfl rfl (by decide) (Pu_move rfl rfl) (WL_pure rfl rfl (by decide) (Pu_idxS1 (r := 0) rfl Try.runUnderlying28 Try.sizeOf5 rfl rfl rfl hF (by omega)) (WL_pure rfl rfl (by decide) (Pu_loadS (r := 0) rfl Try.isAgg5 rfl rfl hF (bs_at1 (k := 0) (by omega))) (WL_pure rfl rfl (by decide) (Pu_bin rfl rfl rfl (run_neq _ _ _ _ _ _)) (WL_pure rfl rfl (by decide) (Pu_move rfl rfl) (WL_guardP rfl rfl rfl rfl (by decide) (fun hb => (Pu_fieldAddrB (off := 1) rfl rfl (by kernel_rfl))) (WL_guardP rfl rfl rfl rfl (by decide) (fun hb => (Pu_loadB (r := 201) rfl Try.isAgg3 (ev_gv rfl hb) rfl rfl)) (WL_guardP rfl rfl rfl rfl (by decide) (fun hb => (Pu_bin rfl (ev_gv rfl hb) rfl (run_lss _ _ _ _ _ _))) (WL_pure rfl rfl (by decide) (Pu_or rfl rfl rfl) (WL_pure rfl rfl (by decide) (Pu_move rfl rfl) (WL_guardP rfl rfl rfl rfl (by decide) (fun hb => (Pu_fieldAddrB (off := 1) rfl rfl (by kernel_rfl))) (WL_guardP rfl rfl rfl rfl (by decide) (fun hb => (Pu_loadB (r := 201) rfl Try.isAgg3 (ev_gv rfl hb) rfl rfl)) (WL_guardP rfl rfl rfl rfl (by decide) (fun hb => (Pu_bin rfl (ev_gv rfl hb) rfl (run_gtr _ _ _ _ _ _))) (WL_pure rfl rfl (by decide) (Pu_or rfl rfl rfl) (WL_pure rfl rfl (by decide) (Pu_move rfl rfl) (WL_guardP rfl rfl rfl rfl (by decide) (fun hb => (Pu_move rfl rfl)) (WL_guardP rfl rfl rfl rfl (by decide) (fun hb => (Pu_bin rfl (ev_gv rfl hb) rfl (run_gtr _ _ _ _ _ _))) (WL_pure rfl rfl (by decide) (Pu_or rfl rfl rfl) (WL_pure rfl rfl (by decide) (Pu_assign rfl rfl) (WL_nil (X_then ?_)))))))))))))))))))))
              refine W_cond rfl (fun hc25 => ?_) (fun hc25 => ?_)
              ·
                rw [pRootBad_of] at hc25
                refine W_seq ?_
                refine W.pre (K' := [(0, _), (2, _), (3, _), (4, _), (5, _), (8, _), (25, _)]) (L' := [(0, _), (101, _), (200, _), (201, _)]) ?_ ⟨rfl, ⟨rfl, ⟨rfl, ⟨rfl, ⟨rfl, ⟨rfl, ⟨rfl, trivial⟩⟩⟩⟩⟩⟩⟩ ⟨rfl, ⟨rfl, ⟨rfl, ⟨rfl, trivial⟩⟩⟩⟩
                refine W_regL (WL_pure rfl rfl (by decide) (Pu_build (V := rootV nilS 0 zeroId nilS) [(0, 1), (1, 1), (2, 32), (34, 1)] (rootC (.slice none 0 0) 0 zeroId (.slice none 0 0)) rfl rfl (by kernel_rfl) (by kernel_rfl) (.nil _) rfl) (WL_cons0 rfl rfl (OpT_storeAll (r := 101) rfl Try.sizeOf56 rfl rfl rfl rfl rfl (one_root rfl rfl) ?_)))
                refine (WL_pure rfl rfl (by decide) (Pu_assign rfl rfl) (WL_nil (X_then ?_)))
                refine W_ret (X_block_ret (X_then_ret ?_))
                have hE := pRootE_bad h95 hc25
                refine X_nilRow 9900 5 1 (X_nilRow 9901 5 1 ?_)
                exact X_ret [9900, 9901] (Ps := [_, _]) (resC2 (r := 101) Try.results21 rfl rfl Try.isAgg56 Try.sizeOf56 rfl (rootC_length zeroId_length)) rfl (by decide) ⟨nilS, nilS, by rw [hE, pRoot_err hE (by decide)]; rfl, by rw [pRoot_err hE (by decide)]; rfl⟩
              ·
                rw [pRootBad_of] at hc25
                have hE0 := pRootE_later h95 hc25
                refine W_seq ?_
                refine W.pre (K' := [(0, _), (2, _), (3, _), (4, _), (5, _), (8, _), (25, _)]) (L' := [(0, _), (101, _), (200, _), (201, _)]) ?_ ⟨rfl, ⟨rfl, ⟨rfl, ⟨rfl, ⟨rfl, ⟨rfl, ⟨rfl, trivial⟩⟩⟩⟩⟩⟩⟩ ⟨rfl, ⟨rfl, ⟨rfl, ⟨rfl, trivial⟩⟩⟩⟩
                refine W_regL (WL_pure rfl rfl (by decide) (Pu_move rfl rfl) (WL_pure rfl rfl (by decide) (Pu_len (r := 0) rfl Try.runUnderlying28 rfl rfl hF) (WL_pure rfl rfl (by decide) (Pu_move rfl rfl) (WL_pure rfl rfl (by decide) (Pu_bin rfl rfl rfl (run_add _ _ _ _ _ (by omega))) (WL_pure rfl rfl (by decide) (Pu_bin rfl rfl rfl (run_lss _ _ _ _ _ _)) (WL_pure rfl rfl (by decide) (Pu_assign rfl rfl) (WL_nil (X_then ?_))))))))
                refine W_cond rfl (fun hc45 => ?_) (fun hc45 => ?_)
                ·
                  have g1 := of_decide_eq_true hc45
                  refine W_seq ?_
                  refine W.pre (K' := [(0, _), (2, _), (3, _), (4, _), (5, _), (8, _), (25, _), (45, _)]) (L' := [(0, _), (101, _), (200, _), (201, _)]) ?_ ⟨rfl, ⟨rfl, ⟨rfl, ⟨rfl, ⟨rfl, ⟨rfl, ⟨rfl, ⟨rfl, trivial⟩⟩⟩⟩⟩⟩⟩⟩ ⟨rfl, ⟨rfl, ⟨rfl, ⟨rfl, trivial⟩⟩⟩⟩
                  refine W_regL (WL_pure rfl rfl (by decide) (Pu_build (V := rootV nilS 0 zeroId nilS) [(0, 1), (1, 1), (2, 32), (34, 1)] (rootC (.slice none 0 0) 0 zeroId (.slice none 0 0)) rfl rfl (by kernel_rfl) (by kernel_rfl) (.nil _) rfl) (WL_cons0 rfl rfl (OpT_storeAll (r := 101) rfl Try.sizeOf56 rfl rfl rfl rfl rfl (one_root rfl rfl) ?_)))
                  refine (WL_pure rfl rfl (by decide) (Pu_assign rfl rfl) (WL_nil (X_then ?_)))
                  refine W_ret (X_block_ret (X_then_ret ?_))
                  have hE := hE0.trans (if_pos (by omega))
                  refine X_nilRow 9900 5 1 (X_nilRow 9901 5 1 ?_)
                  exact X_ret [9900, 9901] (Ps := [_, _]) (resC2 (r := 101) Try.results21 rfl rfl Try.isAgg56 Try.sizeOf56 rfl (rootC_length zeroId_length)) rfl (by decide) ⟨nilS, nilS, by rw [hE, pRoot_err hE (by decide)]; rfl, by rw [pRoot_err hE (by decide)]; rfl⟩
                ·
                  have g1 := of_decide_eq_false hc45
                  refine W_seq ?_
                  refine W.pre (K' := [(0, _), (2, _), (3, _), (4, _), (5, _), (8, _), (25, _), (45, _)]) (L' := [(0, _), (101, _), (200, _), (201, _)]) ?_ ⟨rfl, ⟨rfl, ⟨rfl, ⟨rfl, ⟨rfl, ⟨rfl, ⟨rfl, ⟨rfl, trivial⟩⟩⟩⟩⟩⟩⟩⟩ ⟨rfl, ⟨rfl, ⟨rfl, ⟨rfl, trivial⟩⟩⟩⟩
                  refine W_regL (WL_pure rfl rfl (by decide) (Pu_move rfl rfl) (WL_pure rfl rfl (by decide) (Pu_len (r := 0) rfl Try.runUnderlying28 rfl rfl hF) (WL_pure rfl rfl (by decide) (Pu_move rfl rfl) (WL_pure rfl rfl (by decide) (Pu_bin rfl rfl rfl (run_add _ _ _ _ _ (by omega))) (WL_pure rfl rfl (by decide) (Pu_bin rfl rfl rfl (run_gtr _ _ _ _ _ _)) (WL_pure rfl rfl (by decide) (Pu_assign rfl rfl) (WL_nil (X_then ?_))))))))
                  refine W_cond rfl (fun hc52 => ?_) (fun hc52 => ?_)
                  ·
                    have g2 := of_decide_eq_true hc52
                    refine W_seq ?_
                    refine W.pre (K' := [(0, _), (2, _), (3, _), (4, _), (5, _), (8, _), (25, _), (45, _), (52, _)]) (L' := [(0, _), (101, _), (200, _), (201, _)]) ?_ ⟨rfl, ⟨rfl, ⟨rfl, ⟨rfl, ⟨rfl, ⟨rfl, ⟨rfl, ⟨rfl, ⟨rfl, trivial⟩⟩⟩⟩⟩⟩⟩⟩⟩ ⟨rfl, ⟨rfl, ⟨rfl, ⟨rfl, trivial⟩⟩⟩⟩
                    refine W_regL (WL_pure rfl rfl (by decide) (Pu_build (V := rootV nilS 0 zeroId nilS) [(0, 1), (1, 1), (2, 32), (34, 1)] (rootC (.slice none 0 0) 0 zeroId (.slice none 0 0)) rfl rfl (by kernel_rfl) (by kernel_rfl) (.nil _) rfl) (WL_cons0 rfl rfl (OpT_storeAll (r := 101) rfl Try.sizeOf56 rfl rfl rfl rfl rfl (one_root rfl rfl) ?_)))
                    refine (WL_pure rfl rfl (by decide) (Pu_assign rfl rfl) (WL_nil (X_then ?_)))
                    refine W_ret (X_block_ret (X_then_ret ?_))
                    have hE := hE0.trans ((if_neg (by omega)).trans (if_pos (by omega)))
                    refine X_nilRow 9900 5 1 (X_nilRow 9901 5 1 ?_)
                    exact X_ret [9900, 9901] (Ps := [_, _]) (resC2 (r := 101) Try.results21 rfl rfl Try.isAgg56 Try.sizeOf56 rfl (rootC_length zeroId_length)) rfl (by decide) ⟨nilS, nilS, by rw [hE, pRoot_err hE (by decide)]; rfl, by rw [pRoot_err hE (by decide)]; rfl⟩
                  ·
                    have g2 := of_decide_eq_false hc52
                    refine W_skip (X_block (X_then ?_))
                    refine W_seq ?_
                    refine W.pre (K' := [(0, _), (2, _), (3, _), (4, _), (5, _), (8, _), (25, _), (45, _), (52, _)]) (L' := [(0, _), (101, _), (200, _), (201, _)]) ?_ ⟨rfl, ⟨rfl, ⟨rfl, ⟨rfl, ⟨rfl, ⟨rfl, ⟨rfl, ⟨rfl, ⟨rfl, trivial⟩⟩⟩⟩⟩⟩⟩⟩⟩ ⟨rfl, ⟨rfl, ⟨rfl, ⟨rfl, trivial⟩⟩⟩⟩
                    refine W_regL (WL_pure rfl rfl (by decide) (Pu_move rfl rfl) (WL_pure rfl rfl (by decide) (Pu_slice (r := 0) (a := 95) (b := l.length) rfl Try.runUnderlying28 Try.sizeOf5 rfl rfl hF (.inr ⟨_, _, _, rfl, rfl, rfl⟩) (.inl ⟨rfl, rfl⟩) (by omega) (Nat.le_refl _)) (WL_cons rfl rfl (by decide) (OpT_call 500 [0, 101, 200, 201] [] rfl Try.call31 rfl rfl rfl (by decide) (by decide) (clone_spec _ (l.drop 95) (by simp; omega) _ (rd_star 0 rfl (fun h hp => rdB_tail (hF h hp) (by omega)))) (fun v61 Ps61 hR61 => ?_)))))
                    obtain ⟨ho61, rfl⟩ := hR61
                    skip
                    refine (WL_pure rfl rfl (by decide) (Pu_fieldAddrB (off := 34) rfl rfl (by kernel_rfl)) (WL_cons0 rfl rfl (OpT_storeB1 (r := 201) rfl Try.sizeOf28 rfl rfl rfl ho61 (by rw [rootC_length htop]; decide) (root_set htop) ?_)))
                    refine (WL_nil (X_then ?_))
                    refine W_seq ?_
                    refine W.pre (K' := [(0, _), (2, _), (3, _), (4, _), (5, _), (8, _), (25, _), (45, _), (52, _)]) (L' := [(0, _), (101, _), (200, _), (201, _), (500, _)]) ?_ ⟨rfl, ⟨rfl, ⟨rfl, ⟨rfl, ⟨rfl, ⟨rfl, ⟨rfl, ⟨rfl, ⟨rfl, trivial⟩⟩⟩⟩⟩⟩⟩⟩⟩ ⟨rfl, ⟨rfl, ⟨rfl, ⟨rfl, ⟨rfl, trivial⟩⟩⟩⟩⟩
                    refine W_regL (WL_pure rfl rfl (by decide) (Pu_loadBN (r := 201) rfl Try.isAgg56 Try.sizeOf56 rfl rfl (rootC_length htop) (load_all (rootC_length htop))) (WL_cons0 rfl rfl (OpT_storeAll (r := 101) rfl Try.sizeOf56 rfl rfl rfl rfl (rootC_length htop) (one_root ho12 ho61) ?_)))
                    refine (WL_pure rfl rfl (by decide) (Pu_assign rfl rfl) (WL_nil (X_then ?_)))
                    refine W_ret ?_
                    have hE := hE0.trans ((if_neg (by omega)).trans (if_neg (by omega)))
                    have hR : pRoot l = ⟨(l.drop 1).take 56, val (l.drop 57) 4, (l.drop 61).take 32, l.drop 95⟩ := by unfold pRoot; rw [if_pos hE]
                    exact X_ret [200, 500] (Ps := [_, _]) (resC2 (r := 101) Try.results21 rfl rfl Try.isAgg56 Try.sizeOf56 rfl (rootC_length htop)) rfl (by decide) ⟨v12, v61, by rw [hE, hR]; rfl, by rw [hR]⟩
            exact AHs_nil
          exact AHs_nil
        exact AHs_nil
      exact AHs_nil
    refine AHs_cons rfl rfl rfl (by decide) (OpT_alloc (r := 102) rfl (zero_run (by kernel_rfl : (Try.prog.info? 56).bind (·.zero) = some (.agg (rootC (.slice none 0 0) 0 zeroId (.slice none 0 0)).toArray))) rfl (fun g102 => ⟨⟨rfl, ⟨rfl, trivial⟩⟩, ?_⟩)) ?_
    ·
      refine (AH_ready [2] (by kernel_rfl) (by decide) ?_)
      refine AHs_cons rfl rfl rfl (by decide) (OpT_call 200 [0, 101, 102] [] rfl Try.call31 rfl rfl rfl (by decide) (by decide) (clone_spec _ ((l.drop 1).take 56) (by rw [h56]; omega) _ (rd_star 0 rfl (fun h hp => rdB_sub (hF h hp) (by omega) (by omega)))) (fun v12 Ps12 hR12 => ?_)) ?_
      ·
        obtain ⟨ho12, rfl⟩ := hR12
        refine ⟨⟨rfl, ⟨rfl, trivial⟩⟩, ?_⟩
        skip
        refine (AH_ready [5] (by kernel_rfl) (by decide) ?_)
        refine AHs_cons rfl rfl rfl (by decide) (OpT_call 300 [0, 101, 102, 200] [] rfl Try.call28 rfl rfl rfl (by decide) (by decide) (numbered_spec2 _ (l.drop 57) 4 _ (rd_star 0 rfl (fun h hp => rdB_sub (hF h hp) (by omega) (by omega))) (by simp; omega) (by omega)) (fun v15 Ps15 hR15 => ?_)) ?_
        ·
          obtain ⟨rfl, rfl⟩ := hR15
          refine ⟨⟨rfl, ⟨rfl, trivial⟩⟩, ?_⟩
          refine (AH_take 6 rfl (by kernel_rfl) (by kernel_rfl) (by kernel_rfl) rfl rfl (by decide) (Pu_build (V := rootV v12 (val (l.drop 57) 4) zeroId nilS) [(0, 1), (1, 1), (2, 32), (34, 1)] (rootC (.slice none 0 0) 0 zeroId (.slice none 0 0)) rfl rfl (by kernel_rfl) (by kernel_rfl) (.one rfl ho12 (by simp [rootC, bs_length, zeroId_length]) rfl (.one rfl rfl (by simp [rootC, bs_length, zeroId_length]) rfl (.nil _))) rfl) (AH_ready [8] (by kernel_rfl) (by decide) ?_))
          refine AHs_cons0 rfl rfl rfl (OpT_storeAll (r := 102) rfl Try.sizeOf56 rfl rfl rfl rfl rfl (one_root ho12 rfl) ?_) ?_
          ·
            refine ⟨⟨rfl, ⟨rfl, trivial⟩⟩, ?_⟩
            refine (AH_done (by kernel_rfl) (X_then ?_))
            refine W_seq ?_
            refine W.pre (K' := [(0, _), (2, _), (3, _), (4, _), (8, _)]) (L' := [(0, _), (101, _), (102, _), (200, _)]) ?_ ⟨rfl, ⟨rfl, ⟨rfl, ⟨rfl, ⟨rfl, trivial⟩⟩⟩⟩⟩ ⟨rfl, ⟨rfl, ⟨rfl, ⟨rfl, trivial⟩⟩⟩⟩
            refine W_draw (N := 5) (by kernel_rfl) rfl [(0, _), (101, _)] ⟨rfl, ⟨rfl, trivial⟩⟩ ?_
            refine (AH_take 0 rfl (by kernel_rfl) (by kernel_rfl) (by kernel_rfl) rfl rfl (by decide) (Pu_fieldAddrB (off := 2) rfl rfl (by kernel_rfl)) (AH_take 1 rfl (by kernel_rfl) (by kernel_rfl) (by kernel_rfl) rfl rfl (by decide) (Pu_sliceArr rfl Try.runUnderlying25 Try.sizeOf5 rfl) (AH_take 2 rfl (by kernel_rfl) (by kernel_rfl) (by kernel_rfl) rfl rfl (by decide) (Pu_move rfl rfl) (AH_take 3 rfl (by kernel_rfl) (by kernel_rfl) (by kernel_rfl) rfl rfl (by decide) (Pu_slice (r := 0) (a := 61) (b := l.length) rfl Try.runUnderlying28 Try.sizeOf5 rfl rfl hF (.inr ⟨_, _, _, rfl, rfl, rfl⟩) (.inl ⟨rfl, rfl⟩) (by omega) (Nat.le_refl _)) (AH_ready [4] (by kernel_rfl) (by decide) ?_)))))
            refine AHs_cons rfl rfl rfl (by decide) (OpT_copyB (r := 102) (r2 := 0) rfl Try.underlying28 TI.hsm5 rfl rfl rfl rfl (fun h hp => rdB_tail (hF h hp) (by omega)) (bs_one _) (by rw [rootC_length zeroId_length]; simp; omega) (root_copy zeroId_length (b := l.drop 61) (by simp; omega)) ?_) ?_
            ·
              refine ⟨⟨rfl, ⟨rfl, trivial⟩⟩, ?_⟩
              refine (AH_done (by kernel_rfl) (X_then ?_))
              refine W_seq ?_
              refine W.pre (K' := [(0, _), (2, _), (3, _), (4, _), (8, _)]) (L' := [(0, _), (101, _), (102, _), (200, _)]) ?_ ⟨rfl, ⟨rfl, ⟨rfl, ⟨rfl, ⟨rfl, trivial⟩⟩⟩⟩⟩ ⟨rfl, ⟨rfl, ⟨rfl, ⟨rfl, trivial⟩⟩⟩⟩
              refine W_regL (WL_pure rfl rfl (by decide) (Pu_move rfl rfl) (WL_pure rfl rfl (by decide) (Pu_slice (r := 0) (a := 93) (b := 95) rfl Try.runUnderlying28 Try.sizeOf5 rfl rfl hF (.inr ⟨_, _, _, rfl, rfl, rfl⟩) (.inr ⟨_, _, _, rfl, rfl, rfl⟩) (by omega) (by omega)) (WL_cons rfl rfl (by decide) (OpT_call 400 [0, 101, 102, 200] [] rfl Try.call28 rfl rfl rfl (by decide) (by decide) (numbered_spec2 _ (l.drop 93) 2 _ (rd_star 0 rfl (fun h hp => rdB_sub (hF h hp) (by omega) (by omega))) (by simp; omega) (by omega)) (fun v24 Ps24 hR24 => ?_)))))
              obtain ⟨rfl, rfl⟩ := hR24
              refine (WL_pure rfl rfl (by decide) (Pu_assign rfl rfl) (WL_nil (X_then ?_)))
              refine W_seq ?_
              refine W_block ?_
              refine W_seq ?_
              refine W.pre (K' := [(0, _), (2, _), (3, _), (4, _), (5, _), (8, _)]) (L' := [(0, _), (101, _), (102, _), (200, _)]) ?_ ⟨rfl, ⟨rfl, ⟨rfl, ⟨rfl, ⟨rfl, ⟨rfl, trivial⟩⟩⟩⟩⟩⟩ ⟨rfl, ⟨rfl, ⟨rfl, ⟨rfl, trivial⟩⟩⟩⟩
              refine W_regL (WL_pure rfl rfl (by decide) (Pu_move rfl rfl) (WL_pure rfl rfl (by decide) (Pu_idxS1 (r := 0) rfl Try.runUnderlying28 Try.sizeOf5 rfl rfl rfl hF (by omega)) (WL_pure rfl rfl (by decide) (Pu_loadS (r := 0) rfl Try.isAgg5 rfl rfl hF (bs_at1 (k := 0) (by omega))) (WL_pure rfl rfl (by decide) (Pu_bin rfl rfl rfl (run_neq _ _ _ _ _ _)) (WL_pure rfl rfl (by decide) (Pu_move rfl rfl) (WL_guardP rfl rfl rfl rfl (by decide) (fun hb => (Pu_fieldAddrB (off := 1) rfl rfl (by kernel_rfl))) (WL_guardP rfl rfl rfl rfl (by decide) (fun hb => (Pu_loadB (r := 102) rfl Try.isAgg3 (ev_gv rfl hb) rfl rfl)) (WL_guardP rfl rfl rfl rfl (by decide) (fun hb => (Pu_bin rfl (ev_gv rfl hb) rfl (run_lss _ _ _ _ _ _))) (WL_pure rfl rfl (by decide) (Pu_or rfl rfl rfl) (WL_pure rfl rfl (by decide) (Pu_move rfl rfl) (WL_guardP rfl rfl rfl rfl (by decide) (fun hb => (Pu_fieldAddrB (off := 1) rfl rfl (by kernel_rfl))) (WL_guardP rfl rfl rfl rfl (by decide) (fun hb => (Pu_loadB (r := 102) rfl Try.isAgg3 (ev_gv rfl hb) rfl rfl)) (WL_guardP rfl rfl rfl rfl (by decide) (fun hb => (Pu_bin rfl (ev_gv rfl hb) rfl (run_gtr _ _ _ _ _ _))) (WL_pure rfl rfl (by decide) (Pu_or rfl rfl rfl) (WL_pure rfl rfl (by decide) (Pu_move rfl rfl) (WL_guardP rfl rfl rfl rfl (by decide) (fun hb => (Pu_move rfl rfl)) (WL_guardP rfl rfl rfl rfl (by decide) (fun hb => (Pu_bin rfl (ev_gv rfl hb) rfl (run_gtr _ _ _ _ _ _))) (WL_pure rfl rfl (by decide) (Pu_or rfl rfl rfl) (WL_pure rfl rfl (by decide) (Pu_assign rfl rfl) (WL_nil (X_then ?_)))))))))))))))))))))
              refine W_cond rfl (fun hc25 => ?_) (fun hc25 => ?_)
              ·
                rw [pRootBad_of] at hc25
                refine W_seq ?_
                refine W.pre (K' := [(0, _), (2, _), (3, _), (4, _), (5, _), (8, _), (25, _)]) (L' := [(0, _), (101, _), (102, _), (200, _)]) ?_ ⟨rfl, ⟨rfl, ⟨rfl, ⟨rfl, ⟨rfl, ⟨rfl, ⟨rfl, trivial⟩⟩⟩⟩⟩⟩⟩ ⟨rfl, ⟨rfl, ⟨rfl, ⟨rfl, trivial⟩⟩⟩⟩
                refine W_regL (WL_pure rfl rfl (by decide) (Pu_build (V := rootV nilS 0 zeroId nilS) [(0, 1), (1, 1), (2, 32), (34, 1)] (rootC (.slice none 0 0) 0 zeroId (.slice none 0 0)) rfl rfl (by kernel_rfl) (by kernel_rfl) (.nil _) rfl) (WL_cons0 rfl rfl (OpT_storeAll (r := 101) rfl Try.sizeOf56 rfl rfl rfl rfl rfl (one_root rfl rfl) ?_)))
                refine (WL_pure rfl rfl (by decide) (Pu_assign rfl rfl) (WL_nil (X_then ?_)))
                refine W_ret (X_block_ret (X_then_ret ?_))
                have hE := pRootE_bad h95 hc25
                refine X_nilRow 9900 5 1 (X_nilRow 9901 5 1 ?_)
                exact X_ret [9900, 9901] (Ps := [_, _]) (resC2 (r := 101) Try.results21 rfl rfl Try.isAgg56 Try.sizeOf56 rfl (rootC_length zeroId_length)) rfl (by decide) ⟨nilS, nilS, by rw [hE, pRoot_err hE (by decide)]; rfl, by rw [pRoot_err hE (by decide)]; rfl⟩
              ·
                rw [pRootBad_of] at hc25
                have hE0 := pRootE_later h95 hc25
                refine W_seq ?_
                refine W.pre (K' := [(0, _), (2, _), (3, _), (4, _), (5, _), (8, _), (25, _)]) (L' := [(0, _), (101, _), (102, _), (200, _)]) ?_ ⟨rfl, ⟨rfl, ⟨rfl, ⟨rfl, ⟨rfl, ⟨rfl, ⟨rfl, trivial⟩⟩⟩⟩⟩⟩⟩ ⟨rfl, ⟨rfl, ⟨rfl, ⟨rfl, trivial⟩⟩⟩⟩
                refine W_regL (WL_pure rfl rfl (by decide) (Pu_move rfl rfl) (WL_pure rfl rfl (by decide) (Pu_len (r := 0) rfl Try.runUnderlying28 rfl rfl hF) (WL_pure rfl rfl (by decide) (Pu_move rfl rfl) (WL_pure rfl rfl (by decide) (Pu_bin rfl rfl rfl (run_add _ _ _ _ _ (by omega))) (WL_pure rfl rfl (by decide) (Pu_bin rfl rfl rfl (run_lss _ _ _ _ _ _)) (WL_pure rfl rfl (by decide) (Pu_assign rfl rfl) (WL_nil (X_then ?_))))))))
                refine W_cond rfl (fun hc45 => ?_) (fun hc45 => ?_)
                ·
                  have g1 := of_decide_eq_true hc45
                  refine W_seq ?_
                  refine W.pre (K' := [(0, _), (2, _), (3, _), (4, _), (5, _), (8, _), (25, _), (45, _)]) (L' := [(0, _), (101, _), (102, _), (200, _)]) ?_ ⟨rfl, ⟨rfl, ⟨rfl, ⟨rfl, ⟨rfl, ⟨rfl, ⟨rfl, ⟨rfl, trivial⟩⟩⟩⟩⟩⟩⟩⟩ ⟨rfl, ⟨rfl, ⟨rfl, ⟨rfl, trivial⟩⟩⟩⟩
                  refine W_regL (WL_pure rfl rfl (by decide) (Pu_build (V := rootV nilS 0 zeroId nilS) [(0, 1), (1, 1), (2, 32), (34, 1)] (rootC (.slice none 0 0) 0 zeroId (.slice none 0 0)) rfl rfl (by kernel_rfl) (by kernel_rfl) (.nil _) rfl) (WL_cons0 rfl rfl (OpT_storeAll (r := 101) rfl Try.sizeOf56 rfl rfl rfl rfl rfl (one_root rfl rfl) ?_)))
                  refine (WL_pure rfl rfl (by decide) (Pu_assign rfl rfl) (WL_nil (X_then ?_)))
                  refine W_ret (X_block_ret (X_then_ret ?_))
                  have hE := hE0.trans (if_pos (by omega))
                  refine X_nilRow 9900 5 1 (X_nilRow 9901 5 1 ?_)
                  exact X_ret [9900, 9901] (Ps := [_, _]) (resC2 (r := 101) Try.results21 rfl rfl Try.isAgg56 Try.sizeOf56 rfl (rootC_length zeroId_length)) rfl (by decide) ⟨nilS, nilS, by rw [hE, pRoot_err hE (by decide)]; rfl, by rw [pRoot_err hE (by decide)]; rfl⟩
                ·
                  have g1 := of_decide_eq_false hc45
                  refine W_seq ?_
                  refine W.pre (K' := [(0, _), (2, _), (3, _), (4, _), (5, _), (8, _), (25, _), (45, _)]) (L' := [(0, _), (101, _), (102, _), (200, _)]) ?_ ⟨rfl, ⟨rfl, ⟨rfl, ⟨rfl, ⟨rfl, ⟨rfl, ⟨rfl, ⟨rfl, trivial⟩⟩⟩⟩⟩⟩⟩⟩ ⟨rfl, ⟨rfl, ⟨rfl, ⟨rfl, trivial⟩⟩⟩⟩
                  refine W_regL (WL_pure rfl rfl (by decide) (Pu_move rfl rfl) (WL_pure rfl rfl (by decide) (Pu_len (r := 0) rfl Try.runUnderlying28 rfl rfl hF) (WL_pure rfl rfl (by decide) (Pu_move rfl rfl) (WL_pure rfl rfl (by decide) (Pu_bin rfl rfl rfl (run_add _ _ _ _ _ (by omega))) (WL_pure rfl rfl (by decide) (Pu_bin rfl rfl rfl (run_gtr _ _ _ _ _ _)) (WL_pure rfl rfl (by decide) (Pu_assign rfl rfl) (WL_nil (X_then ?_))))))))
                  refine W_cond rfl (fun hc52 => ?_) (fun hc52 => ?_)
                  ·
                    have g2 := of_decide_eq_true hc52
                    refine W_seq ?_
                    refine W.pre (K' := [(0, _), (2, _), (3, _), (4, _), (5, _), (8, _), (25, _), (45, _), (52, _)]) (L' := [(0, _), (101, _), (102, _), (200, _)]) ?_ ⟨rfl, ⟨rfl, ⟨rfl, ⟨rfl, ⟨rfl, ⟨rfl, ⟨rfl, ⟨rfl, ⟨rfl, trivial⟩⟩⟩⟩⟩⟩⟩⟩⟩ ⟨rfl, ⟨rfl, ⟨rfl, ⟨rfl, trivial⟩⟩⟩⟩
                    refine W_regL (WL_pure rfl rfl (by decide) (Pu_build (V := rootV nilS 0 zeroId nilS) [(0, 1), (1, 1), (2, 32), (34, 1)] (rootC (.slice none 0 0) 0 zeroId (.slice none 0 0)) rfl rfl (by kernel_rfl) (by kernel_rfl) (.nil _) rfl) (WL_cons0 rfl rfl (OpT_storeAll (r := 101) rfl Try.sizeOf56 rfl rfl rfl rfl rfl (one_root rfl rfl) ?_)))
                    refine (WL_pure rfl rfl (by decide) (Pu_assign rfl rfl) (WL_nil (X_then ?_)))
                    refine W_ret (X_block_ret (X_then_ret ?_))
                    have hE := hE0.trans ((if_neg (by omega)).trans (if_pos (by omega)))
                    refine X_nilRow 9900 5 1 (X_nilRow 9901 5 1 ?_)
                    exact X_ret [9900, 9901] (Ps := [_, _]) (resC2 (r := 101) Try.results21 rfl rfl Try.isAgg56 Try.sizeOf56 rfl (rootC_length zeroId_length)) rfl (by decide) ⟨nilS, nilS, by rw [hE, pRoot_err hE (by decide)]; rfl, by rw [pRoot_err hE (by decide)]; rfl⟩
                  ·
                    have g2 := of_decide_eq_false hc52
                    refine W_skip (X_block (X_then ?_))
                    refine W_seq ?_
                    refine W.pre (K' := [(0, _), (2, _), (3, _), (4, _), (5, _), (8, _), (25, _), (45, _), (52, _)]) (L' := [(0, _), (101, _), (102, _), (200, _)]) ?_ ⟨rfl, ⟨rfl, ⟨rfl, ⟨rfl, ⟨rfl, ⟨rfl, ⟨rfl, ⟨rfl, ⟨rfl, trivial⟩⟩⟩⟩⟩⟩⟩⟩⟩ ⟨rfl, ⟨rfl, ⟨rfl, ⟨rfl, trivial⟩⟩⟩⟩
                    refine W_regL (WL_pure rfl rfl (by decide) (Pu_move rfl rfl) (WL_pure rfl rfl (by decide) (Pu_slice (r := 0) (a := 95) (b := l.length) rfl Try.runUnderlying28 Try.sizeOf5 rfl rfl hF (.inr ⟨_, _, _, rfl, rfl, rfl⟩) (.inl ⟨rfl, rfl⟩) (by omega) (Nat.le_refl _)) (WL_cons rfl rfl (by decide) (OpT_call 500 [0, 101, 102, 200] [] rfl Try.call31 rfl rfl rfl (by decide) (by decide) (clone_spec _ (l.drop 95) (by simp; omega) _ (rd_star 0 rfl (fun h hp => rdB_tail (hF h hp) (by omega)))) (fun v61 Ps61 hR61 => ?_)))))
                    obtain ⟨ho61, rfl⟩ := hR61
                    skip
                    refine (WL_pure rfl rfl (by decide) (Pu_fieldAddrB (off := 34) rfl rfl (by kernel_rfl)) (WL_cons0 rfl rfl (OpT_storeB1 (r := 102) rfl Try.sizeOf28 rfl rfl rfl ho61 (by rw [rootC_length htop]; decide) (root_set htop) ?_)))
                    refine (WL_nil (X_then ?_))
                    refine W_seq ?_
                    refine W.pre (K' := [(0, _), (2, _), (3, _), (4, _), (5, _), (8, _), (25, _), (45, _), (52, _)]) (L' := [(0, _), (101, _), (102, _), (200, _), (500, _)]) ?_ ⟨rfl, ⟨rfl, ⟨rfl, ⟨rfl, ⟨rfl, ⟨rfl, ⟨rfl, ⟨rfl, ⟨rfl, trivial⟩⟩⟩⟩⟩⟩⟩⟩⟩ ⟨rfl, ⟨rfl, ⟨rfl, ⟨rfl, ⟨rfl, trivial⟩⟩⟩⟩⟩
                    refine W_regL (WL_pure rfl rfl (by decide) (Pu_loadBN (r := 102) rfl Try.isAgg56 Try.sizeOf56 rfl rfl (rootC_length htop) (load_all (rootC_length htop))) (WL_cons0 rfl rfl (OpT_storeAll (r := 101) rfl Try.sizeOf56 rfl rfl rfl rfl (rootC_length htop) (one_root ho12 ho61) ?_)))
                    refine (WL_pure rfl rfl (by decide) (Pu_assign rfl rfl) (WL_nil (X_then ?_)))
                    refine W_ret ?_
                    have hE := hE0.trans ((if_neg (by omega)).trans (if_neg (by omega)))
                    have hR : pRoot l = ⟨(l.drop 1).take 56, val (l.drop 57) 4, (l.drop 61).take 32, l.drop 95⟩ := by unfold pRoot; rw [if_pos hE]
                    exact X_ret [200, 500] (Ps := [_, _]) (resC2 (r := 101) Try.results21 rfl rfl Try.isAgg56 Try.sizeOf56 rfl (rootC_length htop)) rfl (by decide) ⟨v12, v61, by rw [hE, hR]; rfl, by rw [hR]⟩
            exact AHs_nil
          exact AHs_nil
        exact AHs_nil
      exact AHs_nil
    exact AHs_nil
end Go.Proofs.Ytnhidehpacidnaa
