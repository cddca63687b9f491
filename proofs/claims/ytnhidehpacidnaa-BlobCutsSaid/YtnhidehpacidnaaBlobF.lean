/- Blocks: inodes by the document. -/
import Derived.Test.YtnhidehpacidnaaBlobE
import Derived.Test.YtnhidehpacidnaaBlob1
namespace Go.Proofs.Ytnhidehpacidnaa
open Go.RowKit
set_option linter.unusedVariables false

theorem refInode_spec (k s l : Int) (top : List UInt8) (ht : top.length = 32) (F : HP) : CallsS Try.prog 17 #[nodeV k s l top] F [] (fun v Ps => ∃ v', v = .tuple #[v', .int .i64 (wrongN k s l top)] ∧ Ps = [rowB 5 v' (inodeR k s l top)]) := by
  have h6 : ([105, byte k] ++ numB s 4).length = 6 := by simp [numB_length]
  refine callsS_enter Try.func17 rfl Try.ntmps17 (by simp) (fun E => ?_)
  refine W_seq ?_
  refine W.pre (K' := [(0, _)]) (L' := [(0, _)]) ?_ ⟨rfl, trivial⟩ ⟨rfl, trivial⟩
  refine W_regL (WL_cons rfl rfl (by decide) (OpT_box (r := 101) rfl rfl rfl (fun g101 => (WL_pure rfl rfl (by decide) (Pu_assign rfl rfl) (WL_pure rfl rfl (by decide) (Pu_assign rfl rfl) (WL_nil (X_then ?_)))))))
  refine W_seq ?_
  refine W_seq ?_
  refine W.pre (K' := [(0, _), (1, _), (2, _), (3, _)]) (L' := [(0, _), (101, _)]) ?_ ⟨rfl, ⟨rfl, ⟨rfl, ⟨rfl, trivial⟩⟩⟩⟩ ⟨rfl, ⟨rfl, trivial⟩⟩
  refine W_regL (WL_pure rfl rfl (by decide) (Pu_loadBN (r := 101) rfl Try.isAgg27 Try.sizeOf27 rfl rfl (nodeC_length ht) (load_all (nodeC_length ht))) (WL_cons rfl rfl (by decide) (OpT_call 200 [0, 101] [] rfl Try.call26 rfl rfl rfl (by decide) (by decide) (refWrong_spec k s l top ht _) (fun v6 Ps6 hR6 => ?_))))
  obtain ⟨rfl, rfl⟩ := hR6
  refine (WL_pure rfl rfl (by decide) (Pu_bin rfl rfl rfl (run_neq _ _ _ _ _ _)) (WL_nil (X_then ?_)))
  refine W_cond rfl (fun hc7 => ?_) (fun hc7 => ?_)
  ·
    refine W_seq ?_
    refine W.pre (K' := [(0, _), (1, _), (2, _), (3, _), (7, _)]) (L' := [(0, _), (101, _)]) ?_ ⟨rfl, ⟨rfl, ⟨rfl, ⟨rfl, ⟨rfl, trivial⟩⟩⟩⟩⟩ ⟨rfl, ⟨rfl, trivial⟩⟩
    refine W_regL (WL_pure rfl rfl (by decide) (Pu_loadBN (r := 101) rfl Try.isAgg27 Try.sizeOf27 rfl rfl (nodeC_length ht) (load_all (nodeC_length ht))) (WL_cons rfl rfl (by decide) (OpT_call 300 [0, 101] [] rfl Try.call26 rfl rfl rfl (by decide) (by decide) (refWrong_spec k s l top ht _) (fun v9 Ps9 hR9 => ?_))))
    obtain ⟨rfl, rfl⟩ := hR9
    refine (WL_pure rfl rfl (by decide) (Pu_assign rfl rfl) (WL_pure rfl rfl (by decide) (Pu_assign rfl rfl) (WL_nil (X_then ?_))))
    refine W_ret (X_then_ret ?_)
    refine X_nilRow 9900 5 1 ?_
    exact X_ret [9900] (Ps := [_]) (res2 Try.results17 rfl rfl) rfl (by decide) ⟨_, rfl, by rw [inodeR, if_neg (by simpa using hc7)]; rfl⟩
  ·
    refine W_skip (X_then ?_)
    refine W_seq ?_
    refine W.pre (K' := [(0, _), (1, _), (2, _), (3, _), (7, _)]) (L' := [(0, _), (101, _)]) ?_ ⟨rfl, ⟨rfl, ⟨rfl, ⟨rfl, ⟨rfl, trivial⟩⟩⟩⟩⟩ ⟨rfl, ⟨rfl, trivial⟩⟩
    refine W_draw (N := 13) (by kernel_rfl) rfl [(0, _), (101, _)] ⟨rfl, ⟨rfl, trivial⟩⟩ ?_
    refine (AH_take 0 rfl (by kernel_rfl) (by kernel_rfl) (by kernel_rfl) rfl rfl (by decide) (Pu_fieldAddrB (off := 0) rfl rfl (by kernel_rfl)) (AH_take 1 rfl (by kernel_rfl) (by kernel_rfl) (by kernel_rfl) rfl rfl (by decide) (Pu_loadB (r := 101) rfl Try.isAgg3 rfl rfl rfl) (AH_take 2 rfl (by kernel_rfl) (by kernel_rfl) (by kernel_rfl) rfl rfl (by decide) (Pu_conv rfl rfl (conv_byte _ _ Try.runUnderlying3 Try.runUnderlying5)) (AH_take 4 rfl (by kernel_rfl) (by kernel_rfl) (by kernel_rfl) rfl rfl (by decide) (Pu_fieldAddrB (off := 1) rfl rfl (by kernel_rfl)) (AH_take 5 rfl (by kernel_rfl) (by kernel_rfl) (by kernel_rfl) rfl rfl (by decide) (Pu_loadB (r := 101) rfl Try.isAgg3 rfl rfl rfl) (AH_take 7 rfl (by kernel_rfl) (by kernel_rfl) (by kernel_rfl) rfl rfl (by decide) (Pu_fieldAddrB (off := 2) rfl rfl (by kernel_rfl)) (AH_take 8 rfl (by kernel_rfl) (by kernel_rfl) (by kernel_rfl) rfl rfl (by decide) (Pu_loadB (r := 101) rfl Try.isAgg3 rfl rfl rfl) (AH_take 9 rfl (by kernel_rfl) (by kernel_rfl) (by kernel_rfl) rfl rfl (by decide) (Pu_conv rfl rfl (conv_byte _ _ Try.runUnderlying3 Try.runUnderlying5)) (AH_ready [3, 10] (by kernel_rfl) (by decide) ?_)))))))))
    refine AHs_cons rfl rfl rfl (by decide) (OpT_buildOnes (r := 201) (bs [105, byte k]) rfl rfl Try.runUnderlying28 Try.sizeOf5 Try.zeroValue5 rfl rfl (by decide) rfl (bs_cells _) (fun v13 => ⟨⟨rfl, ⟨rfl, trivial⟩⟩, ?_⟩)) ?_
    ·
      refine (AH_ready [6, 10] (by kernel_rfl) (by decide) ?_)
      refine AHs_cons rfl rfl rfl (by decide) (OpT_call 300 [0, 101] [201] rfl Try.call27 rfl rfl rfl (by decide) (by decide) (refFour_spec 5 rfl _ [105, byte k] s (by simp) _) (fun v16 Ps16 hR16 => ?_)) ?_
      ·
        subst hR16
        refine ⟨⟨rfl, ⟨rfl, trivial⟩⟩, ?_⟩
        refine (AH_ready [10] (by kernel_rfl) (by decide) ?_)
        refine AHs_cons rfl rfl rfl (by decide) (OpT_buildOnes (r := 301) (bs [byte l]) rfl rfl Try.runUnderlying28 Try.sizeOf5 Try.zeroValue5 rfl rfl (by decide) rfl (bs_cells _) (fun v20 => ⟨⟨rfl, ⟨rfl, trivial⟩⟩, ?_⟩)) ?_
        ·
          refine (AH_ready [11] (by kernel_rfl) (by decide) ?_)
          refine AHs_cons rfl rfl rfl (by decide) (OpT_append (r := 300) (r2 := 301) rfl Try.underlying28 TI.hi5 TI.hz5 TI.hs5 TI.hby5 TI.hzs5 (by decide) rfl rfl rfl rfl (fun _ h => rowP_rd h) (bs_one _) (by unfold maxLen; omega) (by omega) (fun v21 => ?_)) ?_
          ·
            refine ⟨⟨rfl, ⟨rfl, trivial⟩⟩, ?_⟩
            refine (AH_take 12 rfl (by kernel_rfl) (by kernel_rfl) (by kernel_rfl) rfl rfl (by decide) (Pu_assign rfl rfl) (AH_done (by kernel_rfl) (X_then ?_)))
            refine W_seq ?_
            refine W.pre (K' := [(0, _), (1, _), (2, _), (3, _), (4, _), (7, _)]) (L' := [(0, _), (101, _), (300, _), (301, _)]) ?_ ⟨rfl, ⟨rfl, ⟨rfl, ⟨rfl, ⟨rfl, ⟨rfl, trivial⟩⟩⟩⟩⟩⟩ ⟨rfl, ⟨rfl, ⟨rfl, ⟨rfl, trivial⟩⟩⟩⟩
            refine W_regL (WL_pure rfl rfl (by decide) (Pu_move rfl rfl) (WL_pure rfl rfl (by decide) (Pu_fieldAddrB (off := 3) rfl rfl (by kernel_rfl)) (WL_pure rfl rfl (by decide) (Pu_sliceArr rfl Try.runUnderlying25 Try.sizeOf5 rfl) (WL_cons rfl rfl (by decide) (OpT_append (r := 300) (r2 := 101) rfl Try.underlying28 TI.hi5 TI.hz5 TI.hs5 TI.hby5 TI.hzs5 (by decide) rfl rfl rfl rfl (fun _ h => blk_rd (xs := bs top) h (take_top ht) (by rw [bs_length, ht]) (by omega)) (bs_one _) (by unfold maxLen; omega) (by omega) (fun v25 => ?_))))))
            refine (WL_pure rfl rfl (by decide) (Pu_assign rfl rfl) (WL_pure rfl rfl (by decide) (Pu_assign rfl rfl) (WL_nil (X_then ?_))))
            refine W_ret ?_
            exact X_ret [300] (Ps := [_]) (res2 Try.results17 rfl rfl) rfl (by decide) ⟨_, by simp at hc7; rw [hc7], by rw [inodeR, if_pos (by simpa using hc7)]; exact congrArg (· :: []) (rowB_of _ (by simp [inodeB, numB_length, ht]) (by unfold inodeB; simp only [bs_append]))⟩
          exact AHs_nil
        exact AHs_nil
      refine AHs_cons rfl rfl rfl (by decide) (OpT_buildOnes (r := 202) (bs [byte l]) rfl rfl Try.runUnderlying28 Try.sizeOf5 Try.zeroValue5 rfl rfl (by decide) rfl (bs_cells _) (fun v20 => ⟨⟨rfl, ⟨rfl, trivial⟩⟩, ?_⟩)) ?_
      ·
        refine (AH_ready [6] (by kernel_rfl) (by decide) ?_)
        refine AHs_cons rfl rfl rfl (by decide) (OpT_call 300 [0, 101, 202] [201] rfl Try.call27 rfl rfl rfl (by decide) (by decide) (refFour_spec 5 rfl _ [105, byte k] s (by simp) _) (fun v16 Ps16 hR16 => ?_)) ?_
        ·
          subst hR16
          refine ⟨⟨rfl, ⟨rfl, trivial⟩⟩, ?_⟩
          refine (AH_ready [11] (by kernel_rfl) (by decide) ?_)
          refine AHs_cons rfl rfl rfl (by decide) (OpT_append (r := 300) (r2 := 202) rfl Try.underlying28 TI.hi5 TI.hz5 TI.hs5 TI.hby5 TI.hzs5 (by decide) rfl rfl rfl rfl (fun _ h => rowP_rd h) (bs_one _) (by unfold maxLen; omega) (by omega) (fun v21 => ?_)) ?_
          ·
            refine ⟨⟨rfl, ⟨rfl, trivial⟩⟩, ?_⟩
            refine (AH_take 12 rfl (by kernel_rfl) (by kernel_rfl) (by kernel_rfl) rfl rfl (by decide) (Pu_assign rfl rfl) (AH_done (by kernel_rfl) (X_then ?_)))
            refine W_seq ?_
            refine W.pre (K' := [(0, _), (1, _), (2, _), (3, _), (4, _), (7, _)]) (L' := [(0, _), (101, _), (202, _), (300, _)]) ?_ ⟨rfl, ⟨rfl, ⟨rfl, ⟨rfl, ⟨rfl, ⟨rfl, trivial⟩⟩⟩⟩⟩⟩ ⟨rfl, ⟨rfl, ⟨rfl, ⟨rfl, trivial⟩⟩⟩⟩
            refine W_regL (WL_pure rfl rfl (by decide) (Pu_move rfl rfl) (WL_pure rfl rfl (by decide) (Pu_fieldAddrB (off := 3) rfl rfl (by kernel_rfl)) (WL_pure rfl rfl (by decide) (Pu_sliceArr rfl Try.runUnderlying25 Try.sizeOf5 rfl) (WL_cons rfl rfl (by decide) (OpT_append (r := 300) (r2 := 101) rfl Try.underlying28 TI.hi5 TI.hz5 TI.hs5 TI.hby5 TI.hzs5 (by decide) rfl rfl rfl rfl (fun _ h => blk_rd (xs := bs top) h (take_top ht) (by rw [bs_length, ht]) (by omega)) (bs_one _) (by unfold maxLen; omega) (by omega) (fun v25 => ?_))))))
            refine (WL_pure rfl rfl (by decide) (Pu_assign rfl rfl) (WL_pure rfl rfl (by decide) (Pu_assign rfl rfl) (WL_nil (X_then ?_))))
            refine W_ret ?_
            exact X_ret [300] (Ps := [_]) (res2 Try.results17 rfl rfl) rfl (by decide) ⟨_, by simp at hc7; rw [hc7], by rw [inodeR, if_pos (by simpa using hc7)]; exact congrArg (· :: []) (rowB_of _ (by simp [inodeB, numB_length, ht]) (by unfold inodeB; simp only [bs_append]))⟩
          exact AHs_nil
        exact AHs_nil
      exact AHs_nil
    refine AHs_cons rfl rfl rfl (by decide) (OpT_buildOnes (r := 201) (bs [byte l]) rfl rfl Try.runUnderlying28 Try.sizeOf5 Try.zeroValue5 rfl rfl (by decide) rfl (bs_cells _) (fun v20 => ⟨⟨rfl, ⟨rfl, trivial⟩⟩, ?_⟩)) ?_
    ·
      refine (AH_ready [3] (by kernel_rfl) (by decide) ?_)
      refine AHs_cons rfl rfl rfl (by decide) (OpT_buildOnes (r := 202) (bs [105, byte k]) rfl rfl Try.runUnderlying28 Try.sizeOf5 Try.zeroValue5 rfl rfl (by decide) rfl (bs_cells _) (fun v13 => ⟨⟨rfl, ⟨rfl, trivial⟩⟩, ?_⟩)) ?_
      ·
        refine (AH_ready [6] (by kernel_rfl) (by decide) ?_)
        refine AHs_cons rfl rfl rfl (by decide) (OpT_call 300 [0, 101, 201] [202] rfl Try.call27 rfl rfl rfl (by decide) (by decide) (refFour_spec 5 rfl _ [105, byte k] s (by simp) _) (fun v16 Ps16 hR16 => ?_)) ?_
        ·
          subst hR16
          refine ⟨⟨rfl, ⟨rfl, trivial⟩⟩, ?_⟩
          refine (AH_ready [11] (by kernel_rfl) (by decide) ?_)
          refine AHs_cons rfl rfl rfl (by decide) (OpT_append (r := 300) (r2 := 201) rfl Try.underlying28 TI.hi5 TI.hz5 TI.hs5 TI.hby5 TI.hzs5 (by decide) rfl rfl rfl rfl (fun _ h => rowP_rd h) (bs_one _) (by unfold maxLen; omega) (by omega) (fun v21 => ?_)) ?_
          ·
            refine ⟨⟨rfl, ⟨rfl, trivial⟩⟩, ?_⟩
            refine (AH_take 12 rfl (by kernel_rfl) (by kernel_rfl) (by kernel_rfl) rfl rfl (by decide) (Pu_assign rfl rfl) (AH_done (by kernel_rfl) (X_then ?_)))
            refine W_seq ?_
            refine W.pre (K' := [(0, _), (1, _), (2, _), (3, _), (4, _), (7, _)]) (L' := [(0, _), (101, _), (201, _), (300, _)]) ?_ ⟨rfl, ⟨rfl, ⟨rfl, ⟨rfl, ⟨rfl, ⟨rfl, trivial⟩⟩⟩⟩⟩⟩ ⟨rfl, ⟨rfl, ⟨rfl, ⟨rfl, trivial⟩⟩⟩⟩
            refine W_regL (WL_pure rfl rfl (by decide) (Pu_move rfl rfl) (WL_pure rfl rfl (by decide) (Pu_fieldAddrB (off := 3) rfl rfl (by kernel_rfl)) (WL_pure rfl rfl (by decide) (Pu_sliceArr rfl Try.runUnderlying25 Try.sizeOf5 rfl) (WL_cons rfl rfl (by decide) (OpT_append (r := 300) (r2 := 101) rfl Try.underlying28 TI.hi5 TI.hz5 TI.hs5 TI.hby5 TI.hzs5 (by decide) rfl rfl rfl rfl (fun _ h => blk_rd (xs := bs top) h (take_top ht) (by rw [bs_length, ht]) (by omega)) (bs_one _) (by unfold maxLen; omega) (by omega) (fun v25 => ?_))))))
            refine (WL_pure rfl rfl (by decide) (Pu_assign rfl rfl) (WL_pure rfl rfl (by decide) (Pu_assign rfl rfl) (WL_nil (X_then ?_))))
            refine W_ret ?_
            exact X_ret [300] (Ps := [_]) (res2 Try.results17 rfl rfl) rfl (by decide) ⟨_, by simp at hc7; rw [hc7], by rw [inodeR, if_pos (by simpa using hc7)]; exact congrArg (· :: []) (rowB_of _ (by simp [inodeB, numB_length, ht]) (by unfold inodeB; simp only [bs_append]))⟩
          exact AHs_nil
        exact AHs_nil
      exact AHs_nil
    exact AHs_nil
theorem refParseInode_spec (v : Value) (l : List UInt8) (F : HP) (hF : ∀ h, F h → rdB v l h) : CallsS Try.prog 19 #[v] F [] (fun r Ps => r = .tuple #[nodeV (parseI l).1.1 (parseI l).1.2.1 (parseI l).1.2.2.1 (parseI l).1.2.2.2, .int .i64 (parseI l).2] ∧ Ps = []) := by
  refine callsS_enter Try.func19 rfl Try.ntmps19 (by simp) (fun E => ?_)
  refine W_seq ?_
  refine W.pre (K' := [(0, _)]) (L' := [(0, _)]) ?_ ⟨rfl, trivial⟩ ⟨rfl, trivial⟩
  refine W_regL (WL_cons rfl rfl (by decide) (OpT_alloc (r := 101) rfl (zero_run (by kernel_rfl : (Try.prog.info? 27).bind (·.zero) = some (.agg (nodeC 0 0 0 zeroId).toArray))) rfl (fun g101 => (WL_pure rfl rfl (by decide) (Pu_assign rfl rfl) (WL_nil (X_then ?_))))))
  refine W_seq ?_
  refine W_seq ?_
  refine W.pre (K' := [(0, _), (2, _), (3, _)]) (L' := [(0, _), (101, _)]) ?_ ⟨rfl, ⟨rfl, ⟨rfl, trivial⟩⟩⟩ ⟨rfl, ⟨rfl, trivial⟩⟩
  refine W_regL (WL_pure rfl rfl (by decide) (Pu_move rfl rfl) (WL_pure rfl rfl (by decide) (Pu_len (r := 0) rfl Try.runUnderlying28 rfl rfl hF) (WL_pure rfl rfl (by decide) (Pu_bin rfl rfl rfl (run_lss _ _ _ _ _ _)) (WL_nil (X_then ?_)))))
  refine W_cond rfl (fun hc7 => ?_) (fun hc7 => ?_)
  ·
    have h39 := of_decide_eq_true hc7
    refine W_seq ?_
    refine W.pre (K' := [(0, _), (2, _), (3, _), (7, _)]) (L' := [(0, _), (101, _)]) ?_ ⟨rfl, ⟨rfl, ⟨rfl, ⟨rfl, trivial⟩⟩⟩⟩ ⟨rfl, ⟨rfl, trivial⟩⟩
    refine W_regL (WL_pure rfl rfl (by decide) (Pu_build (V := _) [(0, 1), (1, 1), (2, 1), (3, 32)] (nodeC 0 0 0 zeroId) rfl rfl (by kernel_rfl) (by kernel_rfl) (.nil _) rfl) (WL_cons0 rfl rfl (OpT_storeAll (r := 101) rfl Try.sizeOf27 rfl rfl rfl (by simp [nodeC, bs_length, zeroId_length, *]) (by simp [nodeC, bs_length, zeroId_length, *]) (one_node _ _ _ _) ?_)))
    refine (WL_pure rfl rfl (by decide) (Pu_assign rfl rfl) (WL_nil (X_then ?_)))
    refine W_ret (X_then_ret ?_)
    exact X_ret [] (Ps := []) (resC2 (r := 101) Try.results19 rfl rfl Try.isAgg27 Try.sizeOf27 rfl (nodeC_length zeroId_length)) rfl (by decide) ⟨by rw [parseI_cut h39]; rfl, rfl⟩
  ·
    have h39 : 39 ≤ l.length := by have := of_decide_eq_false hc7; omega
    have htop := parsed_top h39
    refine W_skip (X_then ?_)
    refine W_seq ?_
    refine W.pre (K' := [(0, _), (2, _), (3, _), (7, _)]) (L' := [(0, _), (101, _)]) ?_ ⟨rfl, ⟨rfl, ⟨rfl, ⟨rfl, trivial⟩⟩⟩⟩ ⟨rfl, ⟨rfl, trivial⟩⟩
    refine W_draw (N := 17) (by kernel_rfl) rfl [(0, _), (101, _)] ⟨rfl, ⟨rfl, trivial⟩⟩ ?_
    refine (AH_take 0 rfl (by kernel_rfl) (by kernel_rfl) (by kernel_rfl) rfl rfl (by decide) (Pu_move rfl rfl) (AH_take 1 rfl (by kernel_rfl) (by kernel_rfl) (by kernel_rfl) rfl rfl (by decide) (Pu_idxS1 (r := 0) rfl Try.runUnderlying28 Try.sizeOf5 rfl rfl rfl hF (by omega)) (AH_take 2 rfl (by kernel_rfl) (by kernel_rfl) (by kernel_rfl) rfl rfl (by decide) (Pu_loadS (r := 0) rfl Try.isAgg5 rfl rfl hF (bs_at1 (k := 1) (by omega))) (AH_take 3 rfl (by kernel_rfl) (by kernel_rfl) (by kernel_rfl) rfl rfl (by decide) (Pu_conv rfl rfl (conv_u8 _ Try.runUnderlying5 Try.runUnderlying3)) (AH_take 4 rfl (by kernel_rfl) (by kernel_rfl) (by kernel_rfl) rfl rfl (by decide) (Pu_move rfl rfl) (AH_take 5 rfl (by kernel_rfl) (by kernel_rfl) (by kernel_rfl) rfl rfl (by decide) (Pu_slice (r := 0) (a := 2) (b := l.length) rfl Try.runUnderlying28 Try.sizeOf5 rfl rfl hF (.inr ⟨_, _, _, rfl, rfl, rfl⟩) (.inl ⟨rfl, rfl⟩) (by omega) (Nat.le_refl _)) (AH_take 7 rfl (by kernel_rfl) (by kernel_rfl) (by kernel_rfl) rfl rfl (by decide) (Pu_move rfl rfl) (AH_take 8 rfl (by kernel_rfl) (by kernel_rfl) (by kernel_rfl) rfl rfl (by decide) (Pu_idxS1 (r := 0) rfl Try.runUnderlying28 Try.sizeOf5 rfl rfl rfl hF (by omega)) (AH_take 9 rfl (by kernel_rfl) (by kernel_rfl) (by kernel_rfl) rfl rfl (by decide) (Pu_loadS (r := 0) rfl Try.isAgg5 rfl rfl hF (bs_at1 (k := 6) (by omega))) (AH_take 10 rfl (by kernel_rfl) (by kernel_rfl) (by kernel_rfl) rfl rfl (by decide) (Pu_conv rfl rfl (conv_u8 _ Try.runUnderlying5 Try.runUnderlying3)) (AH_take 11 rfl (by kernel_rfl) (by kernel_rfl) (by kernel_rfl) rfl rfl (by decide) (Pu_move rfl rfl) (AH_take 12 rfl (by kernel_rfl) (by kernel_rfl) (by kernel_rfl) rfl rfl (by decide) (Pu_slice (r := 0) (a := 7) (b := l.length) rfl Try.runUnderlying28 Try.sizeOf5 rfl rfl hF (.inr ⟨_, _, _, rfl, rfl, rfl⟩) (.inl ⟨rfl, rfl⟩) (by omega) (Nat.le_refl _)) (AH_ready [6, 15] (by kernel_rfl) (by decide) ?_)))))))))))))
    refine AHs_cons rfl rfl rfl (by decide) (OpT_call 200 [0, 101] [] rfl Try.call29 rfl rfl rfl (by decide) (by decide) (refGet_spec _ (l.drop 2) _ (rd_star 0 rfl (fun h hp => rdB_tail (hF h hp) (by omega))) (by simp; omega)) (fun v15 Ps15 hR15 => ?_)) ?_
    ·
      obtain ⟨rfl, rfl⟩ := hR15
      refine ⟨⟨rfl, ⟨rfl, trivial⟩⟩, ?_⟩
      refine (AH_ready [13, 15] (by kernel_rfl) (by decide) ?_)
      refine AHs_cons rfl rfl rfl (by decide) (OpT_call 300 [0, 101] [] rfl Try.call24 rfl rfl rfl (by decide) (by decide) (refId_spec _ (l.drop 7) _ (rd_star 0 rfl (fun h hp => rdB_tail (hF h hp) (by omega))) (by simp; omega)) (fun v22 Ps22 hR22 => ?_)) ?_
      ·
        obtain ⟨rfl, rfl⟩ := hR22
        refine ⟨⟨rfl, ⟨rfl, trivial⟩⟩, ?_⟩
        refine (AH_take 14 rfl (by kernel_rfl) (by kernel_rfl) (by kernel_rfl) rfl rfl (by decide) (Pu_build (V := nodeV (at0 l 1).toNat (val (l.drop 2) 4) (at0 l 6).toNat ((l.drop 7).take 32)) [(0, 1), (1, 1), (2, 1), (3, 32)] (nodeC 0 0 0 zeroId) rfl rfl (by kernel_rfl) (by kernel_rfl) (.one rfl rfl (by simp [nodeC, bs_length, zeroId_length]) rfl (.one rfl rfl (by simp [nodeC, bs_length, zeroId_length]) rfl (.one rfl rfl (by simp [nodeC, bs_length, zeroId_length]) rfl (.many rfl (by rw [bs_length, htop]) (by simp [nodeC, bs_length, zeroId_length]) rfl (.nil _))))) (congrArg (fun q => Value.agg (List.toArray q)) (node_over zeroId_length htop))) (AH_ready [15] (by kernel_rfl) (by decide) ?_))
        refine AHs_cons rfl rfl rfl (by decide) (OpT_alloc (r := 301) rfl (zero_run (by kernel_rfl : (Try.prog.info? 27).bind (·.zero) = some (.agg (nodeC 0 0 0 zeroId).toArray))) rfl (fun g301 => ⟨⟨rfl, ⟨rfl, trivial⟩⟩, ?_⟩)) ?_
        ·
          refine (AH_ready [16] (by kernel_rfl) (by decide) ?_)
          refine AHs_cons0 rfl rfl rfl (OpT_storeAll (r := 301) rfl Try.sizeOf27 rfl rfl rfl rfl (nodeC_length htop) (one_node _ _ _ _) ?_) ?_
          ·
            refine ⟨⟨rfl, ⟨rfl, trivial⟩⟩, ?_⟩
            refine (AH_done (by kernel_rfl) (X_then ?_))
            refine W_seq ?_
            refine W_seq ?_
            refine W.pre (K' := [(0, _), (2, _), (3, _), (4, _), (7, _)]) (L' := [(0, _), (101, _), (301, _)]) ?_ ⟨rfl, ⟨rfl, ⟨rfl, ⟨rfl, ⟨rfl, trivial⟩⟩⟩⟩⟩ ⟨rfl, ⟨rfl, ⟨rfl, trivial⟩⟩⟩
            refine W_regL (WL_pure rfl rfl (by decide) (Pu_move rfl rfl) (WL_pure rfl rfl (by decide) (Pu_idxS1 (r := 0) rfl Try.runUnderlying28 Try.sizeOf5 rfl rfl rfl hF (by omega)) (WL_pure rfl rfl (by decide) (Pu_loadS (r := 0) rfl Try.isAgg5 rfl rfl hF (bs_at1 (k := 0) (by omega))) (WL_pure rfl rfl (by decide) (Pu_bin rfl rfl rfl (run_neq _ _ _ _ _ _)) (WL_pure rfl rfl (by decide) (Pu_move rfl rfl) (WL_guardP rfl rfl rfl rfl (by decide) (fun hb => (Pu_loadBN (r := 301) rfl Try.isAgg27 Try.sizeOf27 rfl rfl (nodeC_length htop) (load_all (nodeC_length htop)))) (WL_guard (V := .int .i64 (wrongN (parsed l).1 (parsed l).2.1 (parsed l).2.2.1 (parsed l).2.2.2)) rfl rfl rfl rfl (by decide) (fun hb => (OpT_call 400 [0, 101, 301] [] rfl Try.call26 (evL_cons (ev_gv rfl hb) evL_nil) rfl rfl (by decide) (by decide) (refWrong_spec _ _ _ _ htop _) (fun v30 Ps30 hR30 => ⟨hR30.1, fun w hw => by rw [hR30.2] at hw; exact hw.sub (AllIn.look ⟨rfl, ⟨rfl, ⟨rfl, trivial⟩⟩⟩)⟩))) ?_)))))))
            refine (WL_guardP rfl rfl rfl rfl (by decide) (fun hb => (Pu_bin rfl (ev_gv rfl hb) rfl (run_neq _ _ _ _ _ _))) (WL_pure rfl rfl (by decide) (Pu_or rfl rfl rfl) (WL_nil (X_then ?_))))
            refine W_cond rfl (fun hc32 => ?_) (fun hc32 => ?_)
            ·
              refine W_seq ?_
              refine W.pre (K' := [(0, _), (2, _), (3, _), (4, _), (7, _), (32, _)]) (L' := [(0, _), (101, _), (301, _)]) ?_ ⟨rfl, ⟨rfl, ⟨rfl, ⟨rfl, ⟨rfl, ⟨rfl, trivial⟩⟩⟩⟩⟩⟩ ⟨rfl, ⟨rfl, ⟨rfl, trivial⟩⟩⟩
              refine W_regL (WL_pure rfl rfl (by decide) (Pu_build (V := _) [(0, 1), (1, 1), (2, 1), (3, 32)] (nodeC 0 0 0 zeroId) rfl rfl (by kernel_rfl) (by kernel_rfl) (.nil _) rfl) (WL_cons0 rfl rfl (OpT_storeAll (r := 101) rfl Try.sizeOf27 rfl rfl rfl (by simp [nodeC, bs_length, zeroId_length, *]) (by simp [nodeC, bs_length, zeroId_length, *]) (one_node _ _ _ _) ?_)))
              refine (WL_pure rfl rfl (by decide) (Pu_assign rfl rfl) (WL_nil (X_then ?_)))
              refine W_ret (X_then_ret ?_)
              exact X_ret [] (Ps := []) (resC2 (r := 101) Try.results19 rfl rfl Try.isAgg27 Try.sizeOf27 rfl (nodeC_length zeroId_length)) rfl (by decide) ⟨by rw [parseI_bad h39 hc32]; rfl, rfl⟩
            ·
              refine W_skip (X_then ?_)
              refine W_seq ?_
              refine W_seq ?_
              refine W.pre (K' := [(0, _), (2, _), (3, _), (4, _), (7, _), (32, _)]) (L' := [(0, _), (101, _), (301, _)]) ?_ ⟨rfl, ⟨rfl, ⟨rfl, ⟨rfl, ⟨rfl, ⟨rfl, trivial⟩⟩⟩⟩⟩⟩ ⟨rfl, ⟨rfl, ⟨rfl, trivial⟩⟩⟩
              refine W_regL (WL_pure rfl rfl (by decide) (Pu_move rfl rfl) (WL_pure rfl rfl (by decide) (Pu_len (r := 0) rfl Try.runUnderlying28 rfl rfl hF) (WL_pure rfl rfl (by decide) (Pu_bin rfl rfl rfl (run_gtr _ _ _ _ _ _)) (WL_nil (X_then ?_)))))
              refine W_cond rfl (fun hc36 => ?_) (fun hc36 => ?_)
              ·
                refine W_seq ?_
                refine W.pre (K' := [(0, _), (2, _), (3, _), (4, _), (7, _), (32, _), (36, _)]) (L' := [(0, _), (101, _), (301, _)]) ?_ ⟨rfl, ⟨rfl, ⟨rfl, ⟨rfl, ⟨rfl, ⟨rfl, ⟨rfl, trivial⟩⟩⟩⟩⟩⟩⟩ ⟨rfl, ⟨rfl, ⟨rfl, trivial⟩⟩⟩
                refine W_regL (WL_pure rfl rfl (by decide) (Pu_build (V := _) [(0, 1), (1, 1), (2, 1), (3, 32)] (nodeC 0 0 0 zeroId) rfl rfl (by kernel_rfl) (by kernel_rfl) (.nil _) rfl) (WL_cons0 rfl rfl (OpT_storeAll (r := 101) rfl Try.sizeOf27 rfl rfl rfl (by simp [nodeC, bs_length, zeroId_length, *]) (by simp [nodeC, bs_length, zeroId_length, *]) (one_node _ _ _ _) ?_)))
                refine (WL_pure rfl rfl (by decide) (Pu_assign rfl rfl) (WL_nil (X_then ?_)))
                refine W_ret (X_then_ret ?_)
                exact X_ret [] (Ps := []) (resC2 (r := 101) Try.results19 rfl rfl Try.isAgg27 Try.sizeOf27 rfl (nodeC_length zeroId_length)) rfl (by decide) ⟨by rw [parseI_more h39 hc32 hc36]; rfl, rfl⟩
              ·
                refine W_skip (X_then ?_)
                refine W_seq ?_
                refine W.pre (K' := [(0, _), (2, _), (3, _), (4, _), (7, _), (32, _), (36, _)]) (L' := [(0, _), (101, _), (301, _)]) ?_ ⟨rfl, ⟨rfl, ⟨rfl, ⟨rfl, ⟨rfl, ⟨rfl, ⟨rfl, trivial⟩⟩⟩⟩⟩⟩⟩ ⟨rfl, ⟨rfl, ⟨rfl, trivial⟩⟩⟩
                refine W_regL (WL_pure rfl rfl (by decide) (Pu_loadBN (r := 301) rfl Try.isAgg27 Try.sizeOf27 rfl rfl (nodeC_length htop) (load_all (nodeC_length htop))) (WL_cons0 rfl rfl (OpT_storeAll (r := 101) rfl Try.sizeOf27 rfl rfl rfl rfl (nodeC_length htop) (one_node _ _ _ _) ?_)))
                refine (WL_pure rfl rfl (by decide) (Pu_assign rfl rfl) (WL_nil (X_then ?_)))
                refine W_ret ?_
                exact X_ret [] (Ps := []) (resC2 (r := 101) Try.results19 rfl rfl Try.isAgg27 Try.sizeOf27 rfl (nodeC_length htop)) rfl (by decide) ⟨by rw [parseI_ok h39 hc32 hc36]; rfl, rfl⟩
          exact AHs_nil
        exact AHs_nil
      refine AHs_cons rfl rfl rfl (by decide) (OpT_alloc (r := 201) rfl (zero_run (by kernel_rfl : (Try.prog.info? 27).bind (·.zero) = some (.agg (nodeC 0 0 0 zeroId).toArray))) rfl (fun g201 => ⟨⟨rfl, ⟨rfl, trivial⟩⟩, ?_⟩)) ?_
      ·
        refine (AH_ready [13] (by kernel_rfl) (by decide) ?_)
        refine AHs_cons rfl rfl rfl (by decide) (OpT_call 300 [0, 101, 201] [] rfl Try.call24 rfl rfl rfl (by decide) (by decide) (refId_spec _ (l.drop 7) _ (rd_star 0 rfl (fun h hp => rdB_tail (hF h hp) (by omega))) (by simp; omega)) (fun v22 Ps22 hR22 => ?_)) ?_
        ·
          obtain ⟨rfl, rfl⟩ := hR22
          refine ⟨⟨rfl, ⟨rfl, trivial⟩⟩, ?_⟩
          refine (AH_take 14 rfl (by kernel_rfl) (by kernel_rfl) (by kernel_rfl) rfl rfl (by decide) (Pu_build (V := nodeV (at0 l 1).toNat (val (l.drop 2) 4) (at0 l 6).toNat ((l.drop 7).take 32)) [(0, 1), (1, 1), (2, 1), (3, 32)] (nodeC 0 0 0 zeroId) rfl rfl (by kernel_rfl) (by kernel_rfl) (.one rfl rfl (by simp [nodeC, bs_length, zeroId_length]) rfl (.one rfl rfl (by simp [nodeC, bs_length, zeroId_length]) rfl (.one rfl rfl (by simp [nodeC, bs_length, zeroId_length]) rfl (.many rfl (by rw [bs_length, htop]) (by simp [nodeC, bs_length, zeroId_length]) rfl (.nil _))))) (congrArg (fun q => Value.agg (List.toArray q)) (node_over zeroId_length htop))) (AH_ready [16] (by kernel_rfl) (by decide) ?_))
          refine AHs_cons0 rfl rfl rfl (OpT_storeAll (r := 201) rfl Try.sizeOf27 rfl rfl rfl rfl (nodeC_length htop) (one_node _ _ _ _) ?_) ?_
          ·
            refine ⟨⟨rfl, ⟨rfl, trivial⟩⟩, ?_⟩
            refine (AH_done (by kernel_rfl) (X_then ?_))
            refine W_seq ?_
            refine W_seq ?_
            refine W.pre (K' := [(0, _), (2, _), (3, _), (4, _), (7, _)]) (L' := [(0, _), (101, _), (201, _)]) ?_ ⟨rfl, ⟨rfl, ⟨rfl, ⟨rfl, ⟨rfl, trivial⟩⟩⟩⟩⟩ ⟨rfl, ⟨rfl, ⟨rfl, trivial⟩⟩⟩
            refine W_regL (WL_pure rfl rfl (by decide) (Pu_move rfl rfl) (WL_pure rfl rfl (by decide) (Pu_idxS1 (r := 0) rfl Try.runUnderlying28 Try.sizeOf5 rfl rfl rfl hF (by omega)) (WL_pure rfl rfl (by decide) (Pu_loadS (r := 0) rfl Try.isAgg5 rfl rfl hF (bs_at1 (k := 0) (by omega))) (WL_pure rfl rfl (by decide) (Pu_bin rfl rfl rfl (run_neq _ _ _ _ _ _)) (WL_pure rfl rfl (by decide) (Pu_move rfl rfl) (WL_guardP rfl rfl rfl rfl (by decide) (fun hb => (Pu_loadBN (r := 201) rfl Try.isAgg27 Try.sizeOf27 rfl rfl (nodeC_length htop) (load_all (nodeC_length htop)))) (WL_guard (V := .int .i64 (wrongN (parsed l).1 (parsed l).2.1 (parsed l).2.2.1 (parsed l).2.2.2)) rfl rfl rfl rfl (by decide) (fun hb => (OpT_call 400 [0, 101, 201] [] rfl Try.call26 (evL_cons (ev_gv rfl hb) evL_nil) rfl rfl (by decide) (by decide) (refWrong_spec _ _ _ _ htop _) (fun v30 Ps30 hR30 => ⟨hR30.1, fun w hw => by rw [hR30.2] at hw; exact hw.sub (AllIn.look ⟨rfl, ⟨rfl, ⟨rfl, trivial⟩⟩⟩)⟩))) ?_)))))))
            refine (WL_guardP rfl rfl rfl rfl (by decide) (fun hb => (Pu_bin rfl (ev_gv rfl hb) rfl (run_neq _ _ _ _ _ _))) (WL_pure rfl rfl (by decide) (Pu_or rfl rfl rfl) (WL_nil (X_then ?_))))
            refine W_cond rfl (fun hc32 => ?_) (fun hc32 => ?_)
            ·
              refine W_seq ?_
              refine W.pre (K' := [(0, _), (2, _), (3, _), (4, _), (7, _), (32, _)]) (L' := [(0, _), (101, _), (201, _)]) ?_ ⟨rfl, ⟨rfl, ⟨rfl, ⟨rfl, ⟨rfl, ⟨rfl, trivial⟩⟩⟩⟩⟩⟩ ⟨rfl, ⟨rfl, ⟨rfl, trivial⟩⟩⟩
              refine W_regL (WL_pure rfl rfl (by decide) (Pu_build (V := _) [(0, 1), (1, 1), (2, 1), (3, 32)] (nodeC 0 0 0 zeroId) rfl rfl (by kernel_rfl) (by kernel_rfl) (.nil _) rfl) (WL_cons0 rfl rfl (OpT_storeAll (r := 101) rfl Try.sizeOf27 rfl rfl rfl (by simp [nodeC, bs_length, zeroId_length, *]) (by simp [nodeC, bs_length, zeroId_length, *]) (one_node _ _ _ _) ?_)))
              refine (WL_pure rfl rfl (by decide) (Pu_assign rfl rfl) (WL_nil (X_then ?_)))
              refine W_ret (X_then_ret ?_)
              exact X_ret [] (Ps := []) (resC2 (r := 101) Try.results19 rfl rfl Try.isAgg27 Try.sizeOf27 rfl (nodeC_length zeroId_length)) rfl (by decide) ⟨by rw [parseI_bad h39 hc32]; rfl, rfl⟩
            ·
              refine W_skip (X_then ?_)
              refine W_seq ?_
              refine W_seq ?_
              refine W.pre (K' := [(0, _), (2, _), (3, _), (4, _), (7, _), (32, _)]) (L' := [(0, _), (101, _), (201, _)]) ?_ ⟨rfl, ⟨rfl, ⟨rfl, ⟨rfl, ⟨rfl, ⟨rfl, trivial⟩⟩⟩⟩⟩⟩ ⟨rfl, ⟨rfl, ⟨rfl, trivial⟩⟩⟩
              refine W_regL (WL_pure rfl rfl (by decide) (Pu_move rfl rfl) (WL_pure rfl rfl (by decide) (Pu_len (r := 0) rfl Try.runUnderlying28 rfl rfl hF) (WL_pure rfl rfl (by decide) (Pu_bin rfl rfl rfl (run_gtr _ _ _ _ _ _)) (WL_nil (X_then ?_)))))
              refine W_cond rfl (fun hc36 => ?_) (fun hc36 => ?_)
              ·
                refine W_seq ?_
                refine W.pre (K' := [(0, _), (2, _), (3, _), (4, _), (7, _), (32, _), (36, _)]) (L' := [(0, _), (101, _), (201, _)]) ?_ ⟨rfl, ⟨rfl, ⟨rfl, ⟨rfl, ⟨rfl, ⟨rfl, ⟨rfl, trivial⟩⟩⟩⟩⟩⟩⟩ ⟨rfl, ⟨rfl, ⟨rfl, trivial⟩⟩⟩
                refine W_regL (WL_pure rfl rfl (by decide) (Pu_build (V := _) [(0, 1), (1, 1), (2, 1), (3, 32)] (nodeC 0 0 0 zeroId) rfl rfl (by kernel_rfl) (by kernel_rfl) (.nil _) rfl) (WL_cons0 rfl rfl (OpT_storeAll (r := 101) rfl Try.sizeOf27 rfl rfl rfl (by simp [nodeC, bs_length, zeroId_length, *]) (by simp [nodeC, bs_length, zeroId_length, *]) (one_node _ _ _ _) ?_)))
                refine (WL_pure rfl rfl (by decide) (Pu_assign rfl rfl) (WL_nil (X_then ?_)))
                refine W_ret (X_then_ret ?_)
                exact X_ret [] (Ps := []) (resC2 (r := 101) Try.results19 rfl rfl Try.isAgg27 Try.sizeOf27 rfl (nodeC_length zeroId_length)) rfl (by decide) ⟨by rw [parseI_more h39 hc32 hc36]; rfl, rfl⟩
              ·
                refine W_skip (X_then ?_)
                refine W_seq ?_
                refine W.pre (K' := [(0, _), (2, _), (3, _), (4, _), (7, _), (32, _), (36, _)]) (L' := [(0, _), (101, _), (201, _)]) ?_ ⟨rfl, ⟨rfl, ⟨rfl, ⟨rfl, ⟨rfl, ⟨rfl, ⟨rfl, trivial⟩⟩⟩⟩⟩⟩⟩ ⟨rfl, ⟨rfl, ⟨rfl, trivial⟩⟩⟩
                refine W_regL (WL_pure rfl rfl (by decide) (Pu_loadBN (r := 201) rfl Try.isAgg27 Try.sizeOf27 rfl rfl (nodeC_length htop) (load_all (nodeC_length htop))) (WL_cons0 rfl rfl (OpT_storeAll (r := 101) rfl Try.sizeOf27 rfl rfl rfl rfl (nodeC_length htop) (one_node _ _ _ _) ?_)))
                refine (WL_pure rfl rfl (by decide) (Pu_assign rfl rfl) (WL_nil (X_then ?_)))
                refine W_ret ?_
                exact X_ret [] (Ps := []) (resC2 (r := 101) Try.results19 rfl rfl Try.isAgg27 Try.sizeOf27 rfl (nodeC_length htop)) rfl (by decide) ⟨by rw [parseI_ok h39 hc32 hc36]; rfl, rfl⟩
          exact AHs_nil
        exact AHs_nil
      exact AHs_nil
    refine AHs_cons rfl rfl rfl (by decide) (OpT_alloc (r := 102) rfl (zero_run (by kernel_rfl : (Try.prog.info? 27).bind (·.zero) = some (.agg (nodeC 0 0 0 zeroId).toArray))) rfl (fun g102 => ⟨⟨rfl, ⟨rfl, trivial⟩⟩, ?_⟩)) ?_
    ·
      refine (AH_ready [6] (by kernel_rfl) (by decide) ?_)
      refine AHs_cons rfl rfl rfl (by decide) (OpT_call 200 [0, 101, 102] [] rfl Try.call29 rfl rfl rfl (by decide) (by decide) (refGet_spec _ (l.drop 2) _ (rd_star 0 rfl (fun h hp => rdB_tail (hF h hp) (by omega))) (by simp; omega)) (fun v15 Ps15 hR15 => ?_)) ?_
      ·
        obtain ⟨rfl, rfl⟩ := hR15
        refine ⟨⟨rfl, ⟨rfl, trivial⟩⟩, ?_⟩
        refine (AH_ready [13] (by kernel_rfl) (by decide) ?_)
        refine AHs_cons rfl rfl rfl (by decide) (OpT_call 300 [0, 101, 102] [] rfl Try.call24 rfl rfl rfl (by decide) (by decide) (refId_spec _ (l.drop 7) _ (rd_star 0 rfl (fun h hp => rdB_tail (hF h hp) (by omega))) (by simp; omega)) (fun v22 Ps22 hR22 => ?_)) ?_
        ·
          obtain ⟨rfl, rfl⟩ := hR22
          refine ⟨⟨rfl, ⟨rfl, trivial⟩⟩, ?_⟩
          refine (AH_take 14 rfl (by kernel_rfl) (by kernel_rfl) (by kernel_rfl) rfl rfl (by decide) (Pu_build (V := nodeV (at0 l 1).toNat (val (l.drop 2) 4) (at0 l 6).toNat ((l.drop 7).take 32)) [(0, 1), (1, 1), (2, 1), (3, 32)] (nodeC 0 0 0 zeroId) rfl rfl (by kernel_rfl) (by kernel_rfl) (.one rfl rfl (by simp [nodeC, bs_length, zeroId_length]) rfl (.one rfl rfl (by simp [nodeC, bs_length, zeroId_length]) rfl (.one rfl rfl (by simp [nodeC, bs_length, zeroId_length]) rfl (.many rfl (by rw [bs_length, htop]) (by simp [nodeC, bs_length, zeroId_length]) rfl (.nil _))))) (congrArg (fun q => Value.agg (List.toArray q)) (node_over zeroId_length htop))) (AH_ready [16] (by kernel_rfl) (by decide) ?_))
          refine AHs_cons0 rfl rfl rfl (OpT_storeAll (r := 102) rfl Try.sizeOf27 rfl rfl rfl rfl (nodeC_length htop) (one_node _ _ _ _) ?_) ?_
          ·
            refine ⟨⟨rfl, ⟨rfl, trivial⟩⟩, ?_⟩
            refine (AH_done (by kernel_rfl) (X_then ?_))
            refine W_seq ?_
            refine W_seq ?_
            refine W.pre (K' := [(0, _), (2, _), (3, _), (4, _), (7, _)]) (L' := [(0, _), (101, _), (102, _)]) ?_ ⟨rfl, ⟨rfl, ⟨rfl, ⟨rfl, ⟨rfl, trivial⟩⟩⟩⟩⟩ ⟨rfl, ⟨rfl, ⟨rfl, trivial⟩⟩⟩
            refine W_regL (WL_pure rfl rfl (by decide) (Pu_move rfl rfl) (WL_pure rfl rfl (by decide) (Pu_idxS1 (r := 0) rfl Try.runUnderlying28 Try.sizeOf5 rfl rfl rfl hF (by omega)) (WL_pure rfl rfl (by decide) (Pu_loadS (r := 0) rfl Try.isAgg5 rfl rfl hF (bs_at1 (k := 0) (by omega))) (WL_pure rfl rfl (by decide) (Pu_bin rfl rfl rfl (run_neq _ _ _ _ _ _)) (WL_pure rfl rfl (by decide) (Pu_move rfl rfl) (WL_guardP rfl rfl rfl rfl (by decide) (fun hb => (Pu_loadBN (r := 102) rfl Try.isAgg27 Try.sizeOf27 rfl rfl (nodeC_length htop) (load_all (nodeC_length htop)))) (WL_guard (V := .int .i64 (wrongN (parsed l).1 (parsed l).2.1 (parsed l).2.2.1 (parsed l).2.2.2)) rfl rfl rfl rfl (by decide) (fun hb => (OpT_call 400 [0, 101, 102] [] rfl Try.call26 (evL_cons (ev_gv rfl hb) evL_nil) rfl rfl (by decide) (by decide) (refWrong_spec _ _ _ _ htop _) (fun v30 Ps30 hR30 => ⟨hR30.1, fun w hw => by rw [hR30.2] at hw; exact hw.sub (AllIn.look ⟨rfl, ⟨rfl, ⟨rfl, trivial⟩⟩⟩)⟩))) ?_)))))))
            refine (WL_guardP rfl rfl rfl rfl (by decide) (fun hb => (Pu_bin rfl (ev_gv rfl hb) rfl (run_neq _ _ _ _ _ _))) (WL_pure rfl rfl (by decide) (Pu_or rfl rfl rfl) (WL_nil (X_then ?_))))
            refine W_cond rfl (fun hc32 => ?_) (fun hc32 => ?_)
            ·
              refine W_seq ?_
              refine W.pre (K' := [(0, _), (2, _), (3, _), (4, _), (7, _), (32, _)]) (L' := [(0, _), (101, _), (102, _)]) ?_ ⟨rfl, ⟨rfl, ⟨rfl, ⟨rfl, ⟨rfl, ⟨rfl, trivial⟩⟩⟩⟩⟩⟩ ⟨rfl, ⟨rfl, ⟨rfl, trivial⟩⟩⟩
              refine W_regL (WL_pure rfl rfl (by decide) (Pu_build (V := _) [(0, 1), (1, 1), (2, 1), (3, 32)] (nodeC 0 0 0 zeroId) rfl rfl (by kernel_rfl) (by kernel_rfl) (.nil _) rfl) (WL_cons0 rfl rfl (OpT_storeAll (r := 101) rfl Try.sizeOf27 rfl rfl rfl (by simp [nodeC, bs_length, zeroId_length, *]) (by simp [nodeC, bs_length, zeroId_length, *]) (one_node _ _ _ _) ?_)))
              refine (WL_pure rfl rfl (by decide) (Pu_assign rfl rfl) (WL_nil (X_then ?_)))
              refine W_ret (X_then_ret ?_)
              exact X_ret [] (Ps := []) (resC2 (r := 101) Try.results19 rfl rfl Try.isAgg27 Try.sizeOf27 rfl (nodeC_length zeroId_length)) rfl (by decide) ⟨by rw [parseI_bad h39 hc32]; rfl, rfl⟩
            ·
              refine W_skip (X_then ?_)
              refine W_seq ?_
              refine W_seq ?_
              refine W.pre (K' := [(0, _), (2, _), (3, _), (4, _), (7, _), (32, _)]) (L' := [(0, _), (101, _), (102, _)]) ?_ ⟨rfl, ⟨rfl, ⟨rfl, ⟨rfl, ⟨rfl, ⟨rfl, trivial⟩⟩⟩⟩⟩⟩ ⟨rfl, ⟨rfl, ⟨rfl, trivial⟩⟩⟩
              refine W_regL (WL_pure rfl rfl (by decide) (Pu_move rfl rfl) (WL_pure rfl rfl (by decide) (Pu_len (r := 0) rfl Try.runUnderlying28 rfl rfl hF) (WL_pure rfl rfl (by decide) (Pu_bin rfl rfl rfl (run_gtr _ _ _ _ _ _)) (WL_nil (X_then ?_)))))
              refine W_cond rfl (fun hc36 => ?_) (fun hc36 => ?_)
              ·
                refine W_seq ?_
                refine W.pre (K' := [(0, _), (2, _), (3, _), (4, _), (7, _), (32, _), (36, _)]) (L' := [(0, _), (101, _), (102, _)]) ?_ ⟨rfl, ⟨rfl, ⟨rfl, ⟨rfl, ⟨rfl, ⟨rfl, ⟨rfl, trivial⟩⟩⟩⟩⟩⟩⟩ ⟨rfl, ⟨rfl, ⟨rfl, trivial⟩⟩⟩
                refine W_regL (WL_pure rfl rfl (by decide) (Pu_build (V := _) [(0, 1), (1, 1), (2, 1), (3, 32)] (nodeC 0 0 0 zeroId) rfl rfl (by kernel_rfl) (by kernel_rfl) (.nil _) rfl) (WL_cons0 rfl rfl (OpT_storeAll (r := 101) rfl Try.sizeOf27 rfl rfl rfl (by simp [nodeC, bs_length, zeroId_length, *]) (by simp [nodeC, bs_length, zeroId_length, *]) (one_node _ _ _ _) ?_)))
                refine (WL_pure rfl rfl (by decide) (Pu_assign rfl rfl) (WL_nil (X_then ?_)))
                refine W_ret (X_then_ret ?_)
                exact X_ret [] (Ps := []) (resC2 (r := 101) Try.results19 rfl rfl Try.isAgg27 Try.sizeOf27 rfl (nodeC_length zeroId_length)) rfl (by decide) ⟨by rw [parseI_more h39 hc32 hc36]; rfl, rfl⟩
              ·
                refine W_skip (X_then ?_)
                refine W_seq ?_
                refine W.pre (K' := [(0, _), (2, _), (3, _), (4, _), (7, _), (32, _), (36, _)]) (L' := [(0, _), (101, _), (102, _)]) ?_ ⟨rfl, ⟨rfl, ⟨rfl, ⟨rfl, ⟨rfl, ⟨rfl, ⟨rfl, trivial⟩⟩⟩⟩⟩⟩⟩ ⟨rfl, ⟨rfl, ⟨rfl, trivial⟩⟩⟩
                refine W_regL (WL_pure rfl rfl (by decide) (Pu_loadBN (r := 102) rfl Try.isAgg27 Try.sizeOf27 rfl rfl (nodeC_length htop) (load_all (nodeC_length htop))) (WL_cons0 rfl rfl (OpT_storeAll (r := 101) rfl Try.sizeOf27 rfl rfl rfl rfl (nodeC_length htop) (one_node _ _ _ _) ?_)))
                refine (WL_pure rfl rfl (by decide) (Pu_assign rfl rfl) (WL_nil (X_then ?_)))
                refine W_ret ?_
                exact X_ret [] (Ps := []) (resC2 (r := 101) Try.results19 rfl rfl Try.isAgg27 Try.sizeOf27 rfl (nodeC_length htop)) rfl (by decide) ⟨by rw [parseI_ok h39 hc32 hc36]; rfl, rfl⟩
          exact AHs_nil
        exact AHs_nil
      exact AHs_nil
    exact AHs_nil
end Go.Proofs.Ytnhidehpacidnaa
