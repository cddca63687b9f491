/- Texts of this proof, one behind the other: LmsC, LmsT, LmsD, LmsE, LmsF, LmsG, LmsU, LmsH. -/
import Derived.Test.YtinamipkpdlphaaK3
import Derived.Stop.BytesEq
/- The document's signatures for once: keys, digits. -/
namespace Go.Proofs.Ytinamipkpdlphaa
open Go.RowKit
set_option linter.unusedVariables false
set_option linter.unusedSimpArgs false
set_option maxRecDepth 8000

theorem public5_spec (nm : List UInt8) (hn : nm.length = 16) (q : Int) (seed : List UInt8) (hs : seed.length = 32) (F : HP) : CallsS Try.prog 54 #[idV nm, .int .i64 q, idV seed] F [] (fun r Ps => r = idV (pubO nm q seed) ∧ Ps = []) := by
  refine callsS_enter Try.func54 rfl Try.ntmps54 (by simp) (fun E => ?_)
  refine W_seq ?_
  refine W.pre (K' := [(0, _), (1, _), (2, _)]) (L' := [(0, _)]) ?_ ⟨rfl, ⟨rfl, ⟨rfl, trivial⟩⟩⟩ ⟨rfl, trivial⟩
  refine W_regL (WL_cons rfl rfl (by decide) (OpT_box (r := 101) rfl rfl rfl (fun g101 => (WL_cons rfl rfl (by decide) (OpT_box (r := 102) rfl rfl rfl (fun g102 => (WL_cons rfl rfl (by decide) (OpT_alloc (r := 103) (cs := (bs zeroId)) rfl (zero_run (by kernel_rfl : (Try.prog.info? 29).bind (·.zero) = some (.agg (bs zeroId).toArray))) rfl (fun g103 => (WL_nil (X_then ?_)))))))))))
  refine W_seq ?_
  refine W.pre (K' := [(0, _), (1, _), (2, _), (3, _), (5, _), (6, _)]) (L' := [(0, _), (101, _), (102, _), (103, _)]) ?_ ⟨rfl, ⟨rfl, ⟨rfl, ⟨rfl, ⟨rfl, ⟨rfl, trivial⟩⟩⟩⟩⟩⟩ ⟨rfl, ⟨rfl, ⟨rfl, ⟨rfl, trivial⟩⟩⟩⟩
  refine W_regL (WL_pure rfl rfl (by decide) (Pu_loadBN (r := 101) rfl Try.isAgg52 Try.sizeOf52 rfl rfl ((bs_length _).trans hn) (load_all ((bs_length _).trans hn))) (WL_pure rfl rfl (by decide) (Pu_move rfl rfl) (WL_cons rfl rfl (by decide) (OpT_call 200 [0, 101, 102, 103] [] rfl Try.call56 rfl rfl rfl (by decide) (by decide) (head5_spec nm hn q _) (fun v12 Ps12 hR12 => ?_)))))
  subst hR12
  refine (WL_cons rfl rfl (by decide) (OpT_buildOnes (r := 201) (bs [128, 128]) rfl rfl Try.runUnderlying30 Try.sizeOf5 Try.zeroValue5 rfl rfl (by decide) rfl (bs_cells _) (fun v13 => (WL_cons rfl rfl (by decide) (OpT_append (r := 200) (r2 := 201) rfl Try.underlying30 TI.hi5 TI.hz5 TI.hs5 TI.hby5 TI.hzs5 (by decide) rfl rfl rfl rfl (fun _ h => rowP_rd h) (bs_one _) (by unfold maxLen; simp [hdL_length hn, numB_length, *] <;> omega) (by simp [hdL_length hn, numB_length, *] <;> omega) (fun v14 => ?_))))))
  refine WL_turn (P' := rowB 5 v14 (hdL nm q ++ [128, 128])) 200 rfl (fun h hp => rowB_mk hp (by simp [hdL_length hn, numB_length, *] <;> omega) (by simp only [bs_append])) ?_
  refine (WL_pure rfl rfl (by decide) (Pu_assign rfl rfl) (WL_nil (X_then ?_)))
  refine W_seq ?_
  refine W_seq ?_
  refine W.pre (K' := [(0, _), (1, _), (2, _), (3, _), (5, _), (6, _), (7, _)]) (L' := [(0, _), (101, _), (102, _), (103, _), (200, _), (201, _)]) ?_ ⟨rfl, ⟨rfl, ⟨rfl, ⟨rfl, ⟨rfl, ⟨rfl, ⟨rfl, trivial⟩⟩⟩⟩⟩⟩⟩ ⟨rfl, ⟨rfl, ⟨rfl, ⟨rfl, ⟨rfl, ⟨rfl, trivial⟩⟩⟩⟩⟩⟩
  refine W_regL (WL_pure rfl rfl (by decide) (Pu_assign rfl rfl) (WL_nil (X_then ?_)))
  refine W_block ?_
  refine W_loop (α := Value × Nat) (fun y => [(1, .int .i64 q), (3, .pointer (some ⟨g101, 0, none⟩)), (5, .pointer (some ⟨g102, 0, none⟩)), (6, .pointer (some ⟨g103, 0, none⟩)), (7, y.1), (8, .int .i64 (y.2 : Int))]) (fun y => [(0, F), (101, blk g101 52 (bs nm)), (102, blk g102 29 (bs seed)), (103, blk g103 29 (bs zeroId)), (200, rowB 5 y.1 (hdL nm q ++ [128, 128] ++ rowsC (pubY nm q seed) y.2))]) (fun y => y.2 ≤ 133) (fun y => 133 - y.2) ((v14, 0)) (by dsimp only; omega) ⟨rfl, ⟨rfl, ⟨rfl, ⟨rfl, ⟨rfl, ⟨rfl, trivial⟩⟩⟩⟩⟩⟩ ⟨rfl, rfl, rfl, rfl, look_eq rfl (by rw [rowsC, List.append_nil]), trivial⟩ (fun y hy => ?_)
  have hyl : (rowsC (pubY nm q seed) y.2).length = 32 * y.2 := rowsC_length fun i _ => pubY_length _ _ _ i
  refine W_seq ?_
  refine W_seq ?_
  refine W.pre (K' := [(1, _), (3, _), (5, _), (6, _), (7, _), (8, _)]) (L' := [(0, _), (101, _), (102, _), (103, _), (200, _)]) ?_ ⟨rfl, ⟨rfl, ⟨rfl, ⟨rfl, ⟨rfl, ⟨rfl, trivial⟩⟩⟩⟩⟩⟩ ⟨rfl, ⟨rfl, ⟨rfl, ⟨rfl, ⟨rfl, trivial⟩⟩⟩⟩⟩
  refine W_regL (WL_pure rfl rfl (by decide) (Pu_move rfl rfl) (WL_pure rfl rfl (by decide) (Pu_bin rfl rfl rfl (run_lss _ _ _ _ _ _)) (WL_nil (X_then ?_))))
  refine W_cond rfl (fun hc16 => ?_) (fun hc16 => ?_)
  ·
    have hlt : y.2 < 133 := by have := of_decide_eq_true hc16; omega
    refine W_skip (X_then ?_)
    refine W_seq ?_
    refine W_block ?_
    refine W_seq ?_
    refine W.pre (K' := [(1, _), (3, _), (5, _), (6, _), (7, _), (8, _), (16, _)]) (L' := [(0, _), (101, _), (102, _), (103, _), (200, _)]) ?_ ⟨rfl, ⟨rfl, ⟨rfl, ⟨rfl, ⟨rfl, ⟨rfl, ⟨rfl, trivial⟩⟩⟩⟩⟩⟩⟩ ⟨rfl, ⟨rfl, ⟨rfl, ⟨rfl, ⟨rfl, trivial⟩⟩⟩⟩⟩
    refine W_draw (N := 11) (by kernel_rfl) rfl [(0, _), (101, _), (102, _), (103, _)] ⟨rfl, ⟨rfl, ⟨rfl, ⟨rfl, trivial⟩⟩⟩⟩ ?_
    refine (AH_take 0 rfl (by kernel_rfl) (by kernel_rfl) (by kernel_rfl) rfl rfl (by decide) (Pu_loadBN (r := 101) rfl Try.isAgg52 Try.sizeOf52 rfl rfl ((bs_length _).trans hn) (load_all ((bs_length _).trans hn))) (AH_take 1 rfl (by kernel_rfl) (by kernel_rfl) (by kernel_rfl) rfl rfl (by decide) (Pu_move rfl rfl) (AH_take 2 rfl (by kernel_rfl) (by kernel_rfl) (by kernel_rfl) rfl rfl (by decide) (Pu_move rfl rfl) (AH_take 3 rfl (by kernel_rfl) (by kernel_rfl) (by kernel_rfl) rfl rfl (by decide) (Pu_loadBN (r := 101) rfl Try.isAgg52 Try.sizeOf52 rfl rfl ((bs_length _).trans hn) (load_all ((bs_length _).trans hn))) (AH_take 4 rfl (by kernel_rfl) (by kernel_rfl) (by kernel_rfl) rfl rfl (by decide) (Pu_move rfl rfl) (AH_take 5 rfl (by kernel_rfl) (by kernel_rfl) (by kernel_rfl) rfl rfl (by decide) (Pu_move rfl rfl) (AH_take 6 rfl (by kernel_rfl) (by kernel_rfl) (by kernel_rfl) rfl rfl (by decide) (Pu_loadBN (r := 102) rfl Try.isAgg29 Try.sizeOf29 rfl rfl ((bs_length _).trans hs) (load_all ((bs_length _).trans hs))) (AH_ready [7, 9] (by kernel_rfl) (by decide) ?_))))))))
    refine AHs_cons rfl rfl rfl (by decide) (OpT_call 300 [0, 101, 102, 103, 200] [] rfl Try.call60 rfl rfl rfl (by decide) (by decide) (secret5_spec nm hn q (y.2 : Int) seed hs _) (fun v26 Ps26 hR26 => ?_)) ?_
    ·
      obtain ⟨rfl, rfl⟩ := hR26
      refine ⟨⟨rfl, ⟨rfl, ⟨rfl, ⟨rfl, trivial⟩⟩⟩⟩, ?_⟩
      refine (AH_ready [8, 9] (by kernel_rfl) (by decide) ?_)
      refine AHs_cons rfl rfl rfl (by decide) (OpT_call 400 [0, 101, 102, 103, 200] [] rfl Try.call59 rfl rfl rfl (by decide) (by decide) (walk5_spec nm hn q y.2 0 3 (by omega) (by omega) (hashC nm q (y.2 : Int) 255 seed) (hashC_length _ _ _ _ _) _) (fun v27 Ps27 hR27 => ?_)) ?_
      ·
        obtain ⟨rfl, rfl⟩ := hR27
        refine ⟨⟨rfl, ⟨rfl, ⟨rfl, ⟨rfl, trivial⟩⟩⟩⟩, ?_⟩
        refine (AH_ready [9] (by kernel_rfl) (by decide) ?_)
        refine AHs_cons rfl rfl rfl (by decide) (OpT_alloc (r := 401) (cs := (bs zeroId)) rfl (zero_run (by kernel_rfl : (Try.prog.info? 29).bind (·.zero) = some (.agg (bs zeroId).toArray))) rfl (fun g401 => ⟨⟨rfl, ⟨rfl, ⟨rfl, ⟨rfl, trivial⟩⟩⟩⟩, ?_⟩)) ?_
        ·
          refine (AH_ready [10] (by kernel_rfl) (by decide) ?_)
          refine AHs_cons0 rfl rfl rfl (OpT_storeAll (r := 401) rfl Try.sizeOf29 rfl rfl rfl rfl ((bs_length _).trans (pubY_length nm q seed y.2)) (bs_one _) ?_) ?_
          ·
            refine ⟨⟨rfl, ⟨rfl, ⟨rfl, ⟨rfl, trivial⟩⟩⟩⟩, ?_⟩
            refine (AH_done (by kernel_rfl) (X_then ?_))
            refine W.pre (K' := [(1, _), (3, _), (5, _), (6, _), (7, _), (8, _), (9, _), (16, _)]) (L' := [(0, _), (101, _), (102, _), (103, _), (200, _), (401, _)]) ?_ ⟨rfl, ⟨rfl, ⟨rfl, ⟨rfl, ⟨rfl, ⟨rfl, ⟨rfl, ⟨rfl, trivial⟩⟩⟩⟩⟩⟩⟩⟩ ⟨rfl, ⟨rfl, ⟨rfl, ⟨rfl, ⟨rfl, ⟨rfl, trivial⟩⟩⟩⟩⟩⟩
            refine W_regL (WL_pure rfl rfl (by decide) (Pu_move rfl rfl) (WL_pure rfl rfl (by decide) (Pu_sliceArr rfl Try.runUnderlying29 Try.sizeOf5 rfl) (WL_cons rfl rfl (by decide) (OpT_append (r := 200) (r2 := 401) rfl Try.underlying30 TI.hi5 TI.hz5 TI.hs5 TI.hby5 TI.hzs5 (by decide) rfl rfl rfl rfl (fun _ h => blk_all h (pubY_length nm q seed y.2)) (bs_one _) (by unfold maxLen; simp [hdL_length hn, hyl] <;> omega) (by simp [hdL_length hn, hyl] <;> omega) (fun v30 => ?_)))))
            refine WL_turn (P' := rowB 5 v30 (hdL nm q ++ [128, 128] ++ rowsC (pubY nm q seed) (y.2 + 1))) 200 rfl (fun h hp => rowB_mk hp (rows_len (pubY_length _ _ _ _)) (rows_step _ (pubY nm q seed) y.2)) ?_
            refine (WL_pure rfl rfl (by decide) (Pu_assign rfl rfl) (WL_nil (X_block (X_then ?_))))
            refine W.pre (K' := [(1, _), (3, _), (5, _), (6, _), (7, _), (8, _), (9, _), (16, _)]) (L' := [(0, _), (101, _), (102, _), (103, _), (200, _), (401, _)]) ?_ ⟨rfl, ⟨rfl, ⟨rfl, ⟨rfl, ⟨rfl, ⟨rfl, ⟨rfl, ⟨rfl, trivial⟩⟩⟩⟩⟩⟩⟩⟩ ⟨rfl, ⟨rfl, ⟨rfl, ⟨rfl, ⟨rfl, ⟨rfl, trivial⟩⟩⟩⟩⟩⟩
            refine W_regL (WL_pure rfl rfl (by decide) (Pu_move rfl rfl) (WL_pure rfl rfl (by decide) (Pu_bin rfl rfl rfl (run_add _ _ _ _ _ (by omega))) (WL_pure rfl rfl (by decide) (Pu_assign rfl rfl) (WL_nil ?_))))
            exact X_round (v30, y.2 + 1) (by dsimp only; omega) (by show 133 - (y.2 + 1) < 133 - y.2; omega) ⟨rfl, rfl, rfl, rfl, rfl, rfl, trivial⟩ ⟨rfl, rfl, rfl, rfl, rfl, trivial⟩
          exact AHs_nil
        exact AHs_nil
      refine AHs_cons rfl rfl rfl (by decide) (OpT_alloc (r := 301) (cs := (bs zeroId)) rfl (zero_run (by kernel_rfl : (Try.prog.info? 29).bind (·.zero) = some (.agg (bs zeroId).toArray))) rfl (fun g301 => ⟨⟨rfl, ⟨rfl, ⟨rfl, ⟨rfl, trivial⟩⟩⟩⟩, ?_⟩)) ?_
      ·
        refine (AH_ready [8] (by kernel_rfl) (by decide) ?_)
        refine AHs_cons rfl rfl rfl (by decide) (OpT_call 400 [0, 101, 102, 103, 200, 301] [] rfl Try.call59 rfl rfl rfl (by decide) (by decide) (walk5_spec nm hn q y.2 0 3 (by omega) (by omega) (hashC nm q (y.2 : Int) 255 seed) (hashC_length _ _ _ _ _) _) (fun v27 Ps27 hR27 => ?_)) ?_
        ·
          obtain ⟨rfl, rfl⟩ := hR27
          refine ⟨⟨rfl, ⟨rfl, ⟨rfl, ⟨rfl, trivial⟩⟩⟩⟩, ?_⟩
          refine (AH_ready [10] (by kernel_rfl) (by decide) ?_)
          refine AHs_cons0 rfl rfl rfl (OpT_storeAll (r := 301) rfl Try.sizeOf29 rfl rfl rfl rfl ((bs_length _).trans (pubY_length nm q seed y.2)) (bs_one _) ?_) ?_
          ·
            refine ⟨⟨rfl, ⟨rfl, ⟨rfl, ⟨rfl, trivial⟩⟩⟩⟩, ?_⟩
            refine (AH_done (by kernel_rfl) (X_then ?_))
            refine W.pre (K' := [(1, _), (3, _), (5, _), (6, _), (7, _), (8, _), (9, _), (16, _)]) (L' := [(0, _), (101, _), (102, _), (103, _), (200, _), (301, _)]) ?_ ⟨rfl, ⟨rfl, ⟨rfl, ⟨rfl, ⟨rfl, ⟨rfl, ⟨rfl, ⟨rfl, trivial⟩⟩⟩⟩⟩⟩⟩⟩ ⟨rfl, ⟨rfl, ⟨rfl, ⟨rfl, ⟨rfl, ⟨rfl, trivial⟩⟩⟩⟩⟩⟩
            refine W_regL (WL_pure rfl rfl (by decide) (Pu_move rfl rfl) (WL_pure rfl rfl (by decide) (Pu_sliceArr rfl Try.runUnderlying29 Try.sizeOf5 rfl) (WL_cons rfl rfl (by decide) (OpT_append (r := 200) (r2 := 301) rfl Try.underlying30 TI.hi5 TI.hz5 TI.hs5 TI.hby5 TI.hzs5 (by decide) rfl rfl rfl rfl (fun _ h => blk_all h (pubY_length nm q seed y.2)) (bs_one _) (by unfold maxLen; simp [hdL_length hn, hyl] <;> omega) (by simp [hdL_length hn, hyl] <;> omega) (fun v30 => ?_)))))
            refine WL_turn (P' := rowB 5 v30 (hdL nm q ++ [128, 128] ++ rowsC (pubY nm q seed) (y.2 + 1))) 200 rfl (fun h hp => rowB_mk hp (rows_len (pubY_length _ _ _ _)) (rows_step _ (pubY nm q seed) y.2)) ?_
            refine (WL_pure rfl rfl (by decide) (Pu_assign rfl rfl) (WL_nil (X_block (X_then ?_))))
            refine W.pre (K' := [(1, _), (3, _), (5, _), (6, _), (7, _), (8, _), (9, _), (16, _)]) (L' := [(0, _), (101, _), (102, _), (103, _), (200, _), (301, _)]) ?_ ⟨rfl, ⟨rfl, ⟨rfl, ⟨rfl, ⟨rfl, ⟨rfl, ⟨rfl, ⟨rfl, trivial⟩⟩⟩⟩⟩⟩⟩⟩ ⟨rfl, ⟨rfl, ⟨rfl, ⟨rfl, ⟨rfl, ⟨rfl, trivial⟩⟩⟩⟩⟩⟩
            refine W_regL (WL_pure rfl rfl (by decide) (Pu_move rfl rfl) (WL_pure rfl rfl (by decide) (Pu_bin rfl rfl rfl (run_add _ _ _ _ _ (by omega))) (WL_pure rfl rfl (by decide) (Pu_assign rfl rfl) (WL_nil ?_))))
            exact X_round (v30, y.2 + 1) (by dsimp only; omega) (by show 133 - (y.2 + 1) < 133 - y.2; omega) ⟨rfl, rfl, rfl, rfl, rfl, rfl, trivial⟩ ⟨rfl, rfl, rfl, rfl, rfl, trivial⟩
          exact AHs_nil
        exact AHs_nil
      exact AHs_nil
    refine AHs_cons rfl rfl rfl (by decide) (OpT_alloc (r := 202) (cs := (bs zeroId)) rfl (zero_run (by kernel_rfl : (Try.prog.info? 29).bind (·.zero) = some (.agg (bs zeroId).toArray))) rfl (fun g202 => ⟨⟨rfl, ⟨rfl, ⟨rfl, ⟨rfl, trivial⟩⟩⟩⟩, ?_⟩)) ?_
    ·
      refine (AH_ready [7] (by kernel_rfl) (by decide) ?_)
      refine AHs_cons rfl rfl rfl (by decide) (OpT_call 300 [0, 101, 102, 103, 200, 202] [] rfl Try.call60 rfl rfl rfl (by decide) (by decide) (secret5_spec nm hn q (y.2 : Int) seed hs _) (fun v26 Ps26 hR26 => ?_)) ?_
      ·
        obtain ⟨rfl, rfl⟩ := hR26
        refine ⟨⟨rfl, ⟨rfl, ⟨rfl, ⟨rfl, trivial⟩⟩⟩⟩, ?_⟩
        refine (AH_ready [8] (by kernel_rfl) (by decide) ?_)
        refine AHs_cons rfl rfl rfl (by decide) (OpT_call 400 [0, 101, 102, 103, 200, 202] [] rfl Try.call59 rfl rfl rfl (by decide) (by decide) (walk5_spec nm hn q y.2 0 3 (by omega) (by omega) (hashC nm q (y.2 : Int) 255 seed) (hashC_length _ _ _ _ _) _) (fun v27 Ps27 hR27 => ?_)) ?_
        ·
          obtain ⟨rfl, rfl⟩ := hR27
          refine ⟨⟨rfl, ⟨rfl, ⟨rfl, ⟨rfl, trivial⟩⟩⟩⟩, ?_⟩
          refine (AH_ready [10] (by kernel_rfl) (by decide) ?_)
          refine AHs_cons0 rfl rfl rfl (OpT_storeAll (r := 202) rfl Try.sizeOf29 rfl rfl rfl rfl ((bs_length _).trans (pubY_length nm q seed y.2)) (bs_one _) ?_) ?_
          ·
            refine ⟨⟨rfl, ⟨rfl, ⟨rfl, ⟨rfl, trivial⟩⟩⟩⟩, ?_⟩
            refine (AH_done (by kernel_rfl) (X_then ?_))
            refine W.pre (K' := [(1, _), (3, _), (5, _), (6, _), (7, _), (8, _), (9, _), (16, _)]) (L' := [(0, _), (101, _), (102, _), (103, _), (200, _), (202, _)]) ?_ ⟨rfl, ⟨rfl, ⟨rfl, ⟨rfl, ⟨rfl, ⟨rfl, ⟨rfl, ⟨rfl, trivial⟩⟩⟩⟩⟩⟩⟩⟩ ⟨rfl, ⟨rfl, ⟨rfl, ⟨rfl, ⟨rfl, ⟨rfl, trivial⟩⟩⟩⟩⟩⟩
            refine W_regL (WL_pure rfl rfl (by decide) (Pu_move rfl rfl) (WL_pure rfl rfl (by decide) (Pu_sliceArr rfl Try.runUnderlying29 Try.sizeOf5 rfl) (WL_cons rfl rfl (by decide) (OpT_append (r := 200) (r2 := 202) rfl Try.underlying30 TI.hi5 TI.hz5 TI.hs5 TI.hby5 TI.hzs5 (by decide) rfl rfl rfl rfl (fun _ h => blk_all h (pubY_length nm q seed y.2)) (bs_one _) (by unfold maxLen; simp [hdL_length hn, hyl] <;> omega) (by simp [hdL_length hn, hyl] <;> omega) (fun v30 => ?_)))))
            refine WL_turn (P' := rowB 5 v30 (hdL nm q ++ [128, 128] ++ rowsC (pubY nm q seed) (y.2 + 1))) 200 rfl (fun h hp => rowB_mk hp (rows_len (pubY_length _ _ _ _)) (rows_step _ (pubY nm q seed) y.2)) ?_
            refine (WL_pure rfl rfl (by decide) (Pu_assign rfl rfl) (WL_nil (X_block (X_then ?_))))
            refine W.pre (K' := [(1, _), (3, _), (5, _), (6, _), (7, _), (8, _), (9, _), (16, _)]) (L' := [(0, _), (101, _), (102, _), (103, _), (200, _), (202, _)]) ?_ ⟨rfl, ⟨rfl, ⟨rfl, ⟨rfl, ⟨rfl, ⟨rfl, ⟨rfl, ⟨rfl, trivial⟩⟩⟩⟩⟩⟩⟩⟩ ⟨rfl, ⟨rfl, ⟨rfl, ⟨rfl, ⟨rfl, ⟨rfl, trivial⟩⟩⟩⟩⟩⟩
            refine W_regL (WL_pure rfl rfl (by decide) (Pu_move rfl rfl) (WL_pure rfl rfl (by decide) (Pu_bin rfl rfl rfl (run_add _ _ _ _ _ (by omega))) (WL_pure rfl rfl (by decide) (Pu_assign rfl rfl) (WL_nil ?_))))
            exact X_round (v30, y.2 + 1) (by dsimp only; omega) (by show 133 - (y.2 + 1) < 133 - y.2; omega) ⟨rfl, rfl, rfl, rfl, rfl, rfl, trivial⟩ ⟨rfl, rfl, rfl, rfl, rfl, trivial⟩
          exact AHs_nil
        exact AHs_nil
      exact AHs_nil
    exact AHs_nil
  ·
    have hye : y.2 = 133 := by have := of_decide_eq_false hc16; omega
    rw [hye] at hyl ⊢
    refine W_exit (X_then_exit (X_then_exit (X_block_exit (X_then ?_))))
    refine W_seq ?_
    refine W.pre (K' := [(1, _), (3, _), (5, _), (6, _), (7, _), (8, _), (16, _)]) (L' := [(0, _), (101, _), (102, _), (103, _), (200, _)]) ?_ ⟨rfl, ⟨rfl, ⟨rfl, ⟨rfl, ⟨rfl, ⟨rfl, ⟨rfl, trivial⟩⟩⟩⟩⟩⟩⟩ ⟨rfl, ⟨rfl, ⟨rfl, ⟨rfl, ⟨rfl, trivial⟩⟩⟩⟩⟩
    refine W_regL (WL_pure rfl rfl (by decide) (Pu_move rfl rfl) (WL_cons rfl rfl (by decide) (OpT_call 300 [0, 101, 102, 103, 200] [] rfl Try.call14 rfl rfl rfl (by decide) (by decide) (refSum_spec y.1 (hdL nm q ++ [128, 128] ++ rowsC (pubY nm q seed) 133) (by simp [hdL_length hn, hyl]) _ (rd_star 4 rfl rowB_rd)) (fun v32 Ps32 hR32 => ?_))))
    obtain ⟨rfl, rfl⟩ := hR32
    refine (WL_cons0 rfl rfl (OpT_storeAll (r := 103) rfl Try.sizeOf29 rfl rfl rfl rfl ((bs_length _).trans (sha_length _)) (bs_one _) ?_))
    refine (WL_nil (X_then ?_))
    refine W_ret ?_
    exact X_ret [] (Ps := []) (resC1 (r := 103) Try.results54 rfl Try.isAgg29 Try.sizeOf29 rfl ((bs_length _).trans (sha_length _))) rfl (by decide) ⟨rfl, rfl⟩
theorem digits5_spec (nm : List UInt8) (hn : nm.length = 16) (q : Int) (cv mv : Value) (c msg : List UInt8) (hcl : c.length ≤ 1000000) (hml : msg.length ≤ 1000000) (F : HP) (hc : ∀ h, F h → rdB cv c h) (hm : ∀ h, F h → rdB mv msg h) : CallsS Try.prog 57 #[idV nm, .int .i64 q, cv, mv] F [] (fun r Ps => r = nsV (digL (digB2 nm q c msg)) ∧ Ps = []) := by
  refine callsS_enter Try.func57 rfl Try.ntmps57 (by simp) (fun E => ?_)
  refine W_seq ?_
  refine W.pre (K' := [(0, _), (1, _), (2, _), (3, _)]) (L' := [(0, _)]) ?_ ⟨rfl, ⟨rfl, ⟨rfl, ⟨rfl, trivial⟩⟩⟩⟩ ⟨rfl, trivial⟩
  refine W_regL (WL_cons rfl rfl (by decide) (OpT_box (r := 101) rfl rfl rfl (fun g101 => (WL_cons rfl rfl (by decide) (OpT_alloc (r := 102) (cs := (nsC (List.replicate 133 0))) rfl (zero_run (by kernel_rfl : (Try.prog.info? 99).bind (·.zero) = some (nsV (List.replicate 133 0)))) rfl (fun g102 => (WL_nil (X_then ?_))))))))
  refine W_seq ?_
  refine W.pre (K' := [(0, _), (1, _), (2, _), (3, _), (4, _), (8, _)]) (L' := [(0, _), (101, _), (102, _)]) ?_ ⟨rfl, ⟨rfl, ⟨rfl, ⟨rfl, ⟨rfl, ⟨rfl, trivial⟩⟩⟩⟩⟩⟩ ⟨rfl, ⟨rfl, ⟨rfl, trivial⟩⟩⟩
  refine W_regL (WL_pure rfl rfl (by decide) (Pu_loadBN (r := 101) rfl Try.isAgg52 Try.sizeOf52 rfl rfl ((bs_length _).trans hn) (load_all ((bs_length _).trans hn))) (WL_pure rfl rfl (by decide) (Pu_move rfl rfl) (WL_cons rfl rfl (by decide) (OpT_call 200 [0, 101, 102] [] rfl Try.call56 rfl rfl rfl (by decide) (by decide) (head5_spec nm hn q _) (fun v17 Ps17 hR17 => ?_)))))
  subst hR17
  refine (WL_cons rfl rfl (by decide) (OpT_buildOnes (r := 201) (bs [129, 129]) rfl rfl Try.runUnderlying30 Try.sizeOf5 Try.zeroValue5 rfl rfl (by decide) rfl (bs_cells _) (fun v18 => (WL_cons rfl rfl (by decide) (OpT_append (r := 200) (r2 := 201) rfl Try.underlying30 TI.hi5 TI.hz5 TI.hs5 TI.hby5 TI.hzs5 (by decide) rfl rfl rfl rfl (fun _ h => rowP_rd h) (bs_one _) (by unfold maxLen; simp [hdL_length hn, numB_length, *] <;> omega) (by simp [hdL_length hn, numB_length, *] <;> omega) (fun v19 => ?_))))))
  refine WL_turn (P' := rowB 5 v19 (hdL nm q ++ [129, 129])) 200 rfl (fun h hp => rowB_mk hp (by simp [hdL_length hn, numB_length, *] <;> omega) (by simp only [bs_append])) ?_
  refine (WL_pure rfl rfl (by decide) (Pu_move rfl rfl) (WL_cons rfl rfl (by decide) (OpT_append (r := 200) (r2 := 0) rfl Try.underlying30 TI.hi5 TI.hz5 TI.hs5 TI.hby5 TI.hzs5 (by decide) rfl rfl rfl rfl hc (bs_one _) (by unfold maxLen; simp [hdL_length hn, numB_length, *] <;> omega) (by simp [hdL_length hn, numB_length, *] <;> omega) (fun v21 => ?_))))
  refine WL_turn (P' := rowB 5 v21 (hdL nm q ++ [129, 129] ++ c)) 200 rfl (fun h hp => rowB_mk hp (by simp [hdL_length hn, numB_length, *] <;> omega) (by simp only [bs_append])) ?_
  refine (WL_pure rfl rfl (by decide) (Pu_move rfl rfl) (WL_cons rfl rfl (by decide) (OpT_append (r := 200) (r2 := 0) rfl Try.underlying30 TI.hi5 TI.hz5 TI.hs5 TI.hby5 TI.hzs5 (by decide) rfl rfl rfl rfl hm (bs_one _) (by unfold maxLen; simp [hdL_length hn, numB_length, *] <;> omega) (by simp [hdL_length hn, numB_length, *] <;> omega) (fun v23 => ?_))))
  refine WL_turn (P' := rowB 5 v23 (hdL nm q ++ [129, 129] ++ c ++ msg)) 200 rfl (fun h hp => rowB_mk hp (by simp [hdL_length hn, numB_length, *] <;> omega) (by simp only [bs_append])) ?_
  refine (WL_cons rfl rfl (by decide) (OpT_call 300 [0, 101, 102, 200, 201] [] rfl Try.call14 rfl rfl rfl (by decide) (by decide) (refSum_spec v23 (hdL nm q ++ [129, 129] ++ c ++ msg) (by simp [hdL_length hn, *] <;> omega) _ (rd_star 3 rfl rowB_rd)) (fun v24 Ps24 hR24 => ?_)))
  obtain ⟨rfl, rfl⟩ := hR24
  refine (WL_cons rfl rfl (by decide) (OpT_alloc (r := 301) (cs := (bs zeroId)) rfl (zero_run (by kernel_rfl : (Try.prog.info? 29).bind (·.zero) = some (.agg (bs zeroId).toArray))) rfl (fun g301 => (WL_cons0 rfl rfl (OpT_storeAll (r := 301) rfl Try.sizeOf29 rfl rfl rfl rfl ((bs_length _).trans (sha_length _)) (bs_one _) ?_)))))
  refine (WL_nil (X_then ?_))
  refine W_seq ?_
  refine W.pre (K' := [(0, _), (1, _), (2, _), (3, _), (4, _), (8, _), (9, _)]) (L' := [(0, _), (101, _), (102, _), (200, _), (201, _), (301, _)]) ?_ ⟨rfl, ⟨rfl, ⟨rfl, ⟨rfl, ⟨rfl, ⟨rfl, ⟨rfl, trivial⟩⟩⟩⟩⟩⟩⟩ ⟨rfl, ⟨rfl, ⟨rfl, ⟨rfl, ⟨rfl, ⟨rfl, trivial⟩⟩⟩⟩⟩⟩
  refine W_regL (WL_cons rfl rfl (by decide) (OpT_buildOnes (r := 302) (bs []) rfl rfl Try.runUnderlying30 Try.sizeOf5 Try.zeroValue5 rfl rfl (by decide) rfl (bs_cells _) (fun v25 => (WL_pure rfl rfl (by decide) (Pu_sliceArr rfl Try.runUnderlying29 Try.sizeOf5 rfl) (WL_cons rfl rfl (by decide) (OpT_append (r := 302) (r2 := 301) rfl Try.underlying30 TI.hi5 TI.hz5 TI.hs5 TI.hby5 TI.hzs5 (by decide) rfl rfl rfl rfl (fun _ h => blk_all h (sha_length _)) (bs_one _) (by unfold maxLen; omega) (by omega) (fun v27 => ?_)))))))
  refine WL_turn (P' := rowB 5 v27 (digB nm q c msg)) 302 rfl (fun h hp => rowB_mk hp (by unfold digB; simp [sha_length]) (by unfold digB; simp [bs])) ?_
  refine (WL_pure rfl rfl (by decide) (Pu_assign rfl rfl) (WL_nil (X_then ?_)))
  refine W_seq ?_
  refine W.pre (K' := [(0, _), (1, _), (2, _), (3, _), (4, _), (8, _), (9, _), (10, _)]) (L' := [(0, _), (101, _), (102, _), (200, _), (201, _), (301, _), (302, _)]) ?_ ⟨rfl, ⟨rfl, ⟨rfl, ⟨rfl, ⟨rfl, ⟨rfl, ⟨rfl, ⟨rfl, trivial⟩⟩⟩⟩⟩⟩⟩⟩ ⟨rfl, ⟨rfl, ⟨rfl, ⟨rfl, ⟨rfl, ⟨rfl, ⟨rfl, trivial⟩⟩⟩⟩⟩⟩⟩
  refine W_regL (WL_pure rfl rfl (by decide) (Pu_assign rfl rfl) (WL_nil (X_then ?_)))
  refine W_seq ?_
  refine W_seq ?_
  refine W.pre (K' := [(0, _), (1, _), (2, _), (3, _), (4, _), (8, _), (9, _), (10, _), (11, _)]) (L' := [(0, _), (101, _), (102, _), (200, _), (201, _), (301, _), (302, _)]) ?_ ⟨rfl, ⟨rfl, ⟨rfl, ⟨rfl, ⟨rfl, ⟨rfl, ⟨rfl, ⟨rfl, ⟨rfl, trivial⟩⟩⟩⟩⟩⟩⟩⟩⟩ ⟨rfl, ⟨rfl, ⟨rfl, ⟨rfl, ⟨rfl, ⟨rfl, ⟨rfl, trivial⟩⟩⟩⟩⟩⟩⟩
  refine W_regL (WL_pure rfl rfl (by decide) (Pu_assign rfl rfl) (WL_nil (X_then ?_)))
  refine W_block ?_
  have hdl : (digB nm q c msg).length = 32 := sha_length _
  refine W_loop (α := Nat) (fun x => [(8, .pointer (some ⟨g102, 0, none⟩)), (10, v27), (11, .int .i64 (digSum (digB nm q c msg) x : Int)), (12, .int .i64 (x : Int))]) (fun x => [(0, F), (102, blk g102 99 (nsC (List.replicate 133 0))), (302, rowB 5 v27 (digB nm q c msg))]) (fun x => x ≤ 128) (fun x => 128 - x) (0) (by omega) ⟨rfl, ⟨rfl, ⟨rfl, ⟨rfl, trivial⟩⟩⟩⟩ ⟨rfl, ⟨rfl, ⟨rfl, trivial⟩⟩⟩ (fun x hx => ?_)
  have hds := digSum_le (digB nm q c msg) x
  refine W_seq ?_
  refine W_seq ?_
  refine W.pre (K' := [(8, _), (10, _), (11, _), (12, _)]) (L' := [(0, _), (102, _), (302, _)]) ?_ ⟨rfl, ⟨rfl, ⟨rfl, ⟨rfl, trivial⟩⟩⟩⟩ ⟨rfl, ⟨rfl, ⟨rfl, trivial⟩⟩⟩
  refine W_regL (WL_pure rfl rfl (by decide) (Pu_move rfl rfl) (WL_pure rfl rfl (by decide) (Pu_bin rfl rfl rfl (run_lss _ _ _ _ _ _)) (WL_nil (X_then ?_))))
  refine W_cond rfl (fun hc29 => ?_) (fun hc29 => ?_)
  ·
    have hlt : x < 128 := by have := of_decide_eq_true hc29; omega
    have hdx := dig_lt (digB nm q c msg) x
    refine W_skip (X_then ?_)
    refine W_seq ?_
    refine W_block ?_
    refine W.pre (K' := [(8, _), (10, _), (11, _), (12, _), (29, _)]) (L' := [(0, _), (102, _), (302, _)]) ?_ ⟨rfl, ⟨rfl, ⟨rfl, ⟨rfl, ⟨rfl, trivial⟩⟩⟩⟩⟩ ⟨rfl, ⟨rfl, ⟨rfl, trivial⟩⟩⟩
    refine W_regL (WL_pure rfl rfl (by decide) (Pu_move rfl rfl) (WL_pure rfl rfl (by decide) (Pu_bin rfl rfl rfl (run_add _ _ _ _ _ (by omega))) (WL_pure rfl rfl (by decide) (Pu_move rfl rfl) (WL_pure rfl rfl (by decide) (Pu_move rfl rfl) (WL_cons rfl rfl (by decide) (OpT_call 400 [0, 102, 302] [] rfl Try.call71 rfl rfl rfl (by decide) (by decide) (digit5_spec v27 (digB nm q c msg) x (by omega) (by omega) _ (rd_star 2 rfl rowB_rd)) (fun v36 Ps36 hR36 => ?_)))))))
    obtain ⟨rfl, rfl⟩ := hR36
    refine (WL_pure rfl rfl (by decide) (Pu_bin rfl rfl rfl (run_sub _ _ _ _ _ (by omega))) (WL_pure rfl rfl (by decide) (Pu_assign rfl rfl) (WL_nil (X_block (X_then ?_)))))
    refine W.pre (K' := [(8, _), (10, _), (11, _), (12, _), (29, _)]) (L' := [(0, _), (102, _), (302, _)]) ?_ ⟨rfl, ⟨rfl, ⟨rfl, ⟨rfl, ⟨rfl, trivial⟩⟩⟩⟩⟩ ⟨rfl, ⟨rfl, ⟨rfl, trivial⟩⟩⟩
    refine W_regL (WL_pure rfl rfl (by decide) (Pu_move rfl rfl) (WL_pure rfl rfl (by decide) (Pu_bin rfl rfl rfl (run_add _ _ _ _ _ (by omega))) (WL_pure rfl rfl (by decide) (Pu_assign rfl rfl) (WL_nil ?_))))
    exact X_round (x + 1) (by omega) (by omega) ⟨rfl, rfl, lookV_eq rfl (int_eq (by have := dig_lt (digB nm q c msg) x; rw [digSum]; omega)), rfl, trivial⟩ ⟨rfl, rfl, rfl, trivial⟩
  ·
    obtain rfl : x = 128 := by have := of_decide_eq_false hc29; omega
    refine W_exit (X_then_exit (X_then_exit (X_block_exit (X_then ?_))))
    refine W_seq ?_
    refine W.pre (K' := [(8, _), (10, _), (11, _), (12, _), (29, _)]) (L' := [(0, _), (102, _), (302, _)]) ?_ ⟨rfl, ⟨rfl, ⟨rfl, ⟨rfl, ⟨rfl, trivial⟩⟩⟩⟩⟩ ⟨rfl, ⟨rfl, ⟨rfl, trivial⟩⟩⟩
    refine W_regL (WL_pure rfl rfl (by decide) (Pu_move rfl rfl) (WL_pure rfl rfl (by decide) (Pu_move rfl rfl) (WL_pure rfl rfl (by decide) (Pu_bin rfl rfl rfl (run_mul _ _ _ _ _ (by omega))) (WL_cons rfl rfl (by decide) (OpT_call 400 [0, 102] [302] rfl Try.call55 rfl rfl rfl (by decide) (by decide) (two5_spec _ rfl v27 (digB nm q c msg) (64 * (digSum (digB nm q c msg) 128 : Int)) (by omega) _) (fun v41 Ps41 hR41 => ?_))))))
    subst hR41
    refine WL_turn (P' := rowB 5 v41 (digB2 nm q c msg)) 400 rfl (fun h hp => by unfold digB2; rw [Int.natCast_mul]; exact hp) ?_
    refine (WL_pure rfl rfl (by decide) (Pu_assign rfl rfl) (WL_nil (X_then ?_)))
    refine W_seq ?_
    refine W.pre (K' := [(8, _), (10, _), (11, _), (12, _), (29, _)]) (L' := [(0, _), (102, _), (400, _)]) ?_ ⟨rfl, ⟨rfl, ⟨rfl, ⟨rfl, ⟨rfl, trivial⟩⟩⟩⟩⟩ ⟨rfl, ⟨rfl, ⟨rfl, trivial⟩⟩⟩
    refine W_regL (WL_cons rfl rfl (by decide) (OpT_alloc (r := 401) (cs := (nsC (List.replicate 133 0))) rfl (zero_run (by kernel_rfl : (Try.prog.info? 99).bind (·.zero) = some (nsV (List.replicate 133 0)))) rfl (fun g401 => (WL_nil (X_then ?_)))))
    refine W_seq ?_
    refine W_seq ?_
    refine W.pre (K' := [(8, _), (10, _), (11, _), (12, _), (13, _), (29, _)]) (L' := [(0, _), (102, _), (400, _), (401, _)]) ?_ ⟨rfl, ⟨rfl, ⟨rfl, ⟨rfl, ⟨rfl, ⟨rfl, trivial⟩⟩⟩⟩⟩⟩ ⟨rfl, ⟨rfl, ⟨rfl, ⟨rfl, trivial⟩⟩⟩⟩
    refine W_regL (WL_pure rfl rfl (by decide) (Pu_assign rfl rfl) (WL_nil (X_then ?_)))
    refine W_block ?_
    have hd2 := digB2_length nm q c msg
    refine W_loop (α := Nat) (fun x => [(8, .pointer (some ⟨g102, 0, none⟩)), (10, v41), (13, .pointer (some ⟨g401, 0, none⟩)), (14, .int .i64 (x : Int))]) (fun x => [(0, F), (102, blk g102 99 (nsC (List.replicate 133 0))), (400, rowB 5 v41 (digB2 nm q c msg)), (401, blk g401 99 (nsC (digZ (digB2 nm q c msg) x)))]) (fun x => x ≤ 133) (fun x => 133 - x) (0) (by omega) ⟨rfl, ⟨rfl, ⟨rfl, ⟨rfl, trivial⟩⟩⟩⟩ ⟨rfl, rfl, rfl, look_eq rfl (by rw [digZ_get0]; rfl), trivial⟩ (fun x hx => ?_)
    have hzl := digZ_length (digB2 nm q c msg) hx
    refine W_seq ?_
    refine W_seq ?_
    refine W.pre (K' := [(8, _), (10, _), (13, _), (14, _)]) (L' := [(0, _), (102, _), (400, _), (401, _)]) ?_ ⟨rfl, ⟨rfl, ⟨rfl, ⟨rfl, trivial⟩⟩⟩⟩ ⟨rfl, ⟨rfl, ⟨rfl, ⟨rfl, trivial⟩⟩⟩⟩
    refine W_regL (WL_pure rfl rfl (by decide) (Pu_move rfl rfl) (WL_pure rfl rfl (by decide) (Pu_bin rfl rfl rfl (run_lss _ _ _ _ _ _)) (WL_nil (X_then ?_))))
    refine W_cond rfl (fun hc43 => ?_) (fun hc43 => ?_)
    ·
      have hlt : x < 133 := by have := of_decide_eq_true hc43; omega
      refine W_skip (X_then ?_)
      refine W_seq ?_
      refine W_block ?_
      refine W.pre (K' := [(8, _), (10, _), (13, _), (14, _), (43, _)]) (L' := [(0, _), (102, _), (400, _), (401, _)]) ?_ ⟨rfl, ⟨rfl, ⟨rfl, ⟨rfl, ⟨rfl, trivial⟩⟩⟩⟩⟩ ⟨rfl, ⟨rfl, ⟨rfl, ⟨rfl, trivial⟩⟩⟩⟩
      refine W_regL (WL_pure rfl rfl (by decide) (Pu_move rfl rfl) (WL_pure rfl rfl (by decide) (Pu_move rfl rfl) (WL_pure rfl rfl (by decide) (Pu_move rfl rfl) (WL_cons rfl rfl (by decide) (OpT_call 500 [0, 102, 400, 401] [] rfl Try.call71 rfl rfl rfl (by decide) (by decide) (digit5_spec v41 (digB2 nm q c msg) x (by omega) (by omega) _ (rd_star 2 rfl rowB_rd)) (fun v49 Ps49 hR49 => ?_))))))
      obtain ⟨rfl, rfl⟩ := hR49
      refine (WL_pure rfl rfl (by decide) (Pu_idxA rfl Try.runUnderlying99 Try.sizeOf3 rfl rfl (by omega)) (WL_cons0 rfl rfl (OpT_storeB1 (r := 401) rfl Try.sizeOf3 rfl rfl rfl rfl (by rw [nsC_length, hzl]; omega) ((congrArg (fun q => List.set _ q _) (Nat.zero_add _)).trans (digZ_set _ hlt)) ?_)))
      refine (WL_nil (X_block (X_then ?_)))
      refine W.pre (K' := [(8, _), (10, _), (13, _), (14, _), (43, _)]) (L' := [(0, _), (102, _), (400, _), (401, _)]) ?_ ⟨rfl, ⟨rfl, ⟨rfl, ⟨rfl, ⟨rfl, trivial⟩⟩⟩⟩⟩ ⟨rfl, ⟨rfl, ⟨rfl, ⟨rfl, trivial⟩⟩⟩⟩
      refine W_regL (WL_pure rfl rfl (by decide) (Pu_move rfl rfl) (WL_pure rfl rfl (by decide) (Pu_bin rfl rfl rfl (run_add _ _ _ _ _ (by omega))) (WL_pure rfl rfl (by decide) (Pu_assign rfl rfl) (WL_nil ?_))))
      exact X_round (x + 1) (by omega) (by omega) ⟨rfl, rfl, rfl, rfl, trivial⟩ ⟨rfl, rfl, rfl, rfl, trivial⟩
    ·
      obtain rfl : x = 133 := by have := of_decide_eq_false hc43; omega
      rw [digZ_full]
      have hll := digL_length (digB2 nm q c msg)
      refine W_exit (X_then_exit (X_then_exit (X_block_exit (X_then ?_))))
      refine W_seq ?_
      refine W.pre (K' := [(8, _), (10, _), (13, _), (14, _), (43, _)]) (L' := [(0, _), (102, _), (400, _), (401, _)]) ?_ ⟨rfl, ⟨rfl, ⟨rfl, ⟨rfl, ⟨rfl, trivial⟩⟩⟩⟩⟩ ⟨rfl, ⟨rfl, ⟨rfl, ⟨rfl, trivial⟩⟩⟩⟩
      refine W_regL (WL_pure rfl rfl (by decide) (Pu_loadBN (r := 401) rfl Try.isAgg99 Try.sizeOf99 rfl rfl ((nsC_length _).trans hll) (load_all ((nsC_length _).trans hll))) (WL_cons0 rfl rfl (OpT_storeAll (r := 102) rfl Try.sizeOf99 rfl rfl rfl rfl ((nsC_length _).trans hll) (nsC_one _) ?_)))
      refine (WL_nil (X_then ?_))
      refine W_ret ?_
      exact X_ret [] (Ps := []) (resC1 (r := 102) Try.results57 rfl Try.isAgg99 Try.sizeOf99 rfl ((nsC_length _).trans hll)) rfl (by decide) ⟨rfl, rfl⟩
theorem sign5_spec (nm : List UInt8) (hn : nm.length = 16) (q : Int) (seed : List UInt8) (hs : seed.length = 32) (mv : Value) (msg : List UInt8) (hml : msg.length ≤ 1000000) (F : HP) (hm : ∀ h, F h → rdB mv msg h) : CallsS Try.prog 38 #[idV nm, .int .i64 q, idV seed, mv] F [] (fun r Ps => Ps = [rowB 5 r (sgnO nm q seed msg)]) := by
  refine callsS_enter Try.func38 rfl Try.ntmps38 (by simp) (fun E => ?_)
  refine W_seq ?_
  refine W.pre (K' := [(0, _), (1, _), (2, _), (3, _)]) (L' := [(0, _)]) ?_ ⟨rfl, ⟨rfl, ⟨rfl, ⟨rfl, trivial⟩⟩⟩⟩ ⟨rfl, trivial⟩
  refine W_regL (WL_cons rfl rfl (by decide) (OpT_box (r := 101) rfl rfl rfl (fun g101 => (WL_cons rfl rfl (by decide) (OpT_box (r := 102) rfl rfl rfl (fun g102 => (WL_pure rfl rfl (by decide) (Pu_assign rfl rfl) (WL_nil (X_then ?_)))))))))
  refine W_cut (α := Nat) (fun z9 => [(1, .int .i64 q), (3, mv), (4, .pointer (some ⟨g101, 0, none⟩)), (6, .pointer (some ⟨g102, 0, none⟩)), (9, .pointer (some ⟨z9, 0, none⟩))]) (fun z9 => [(0, F), (101, blk g101 52 (bs nm)), (102, blk g102 29 (bs seed)), (181, blk z9 29 (bs (rndO nm q seed)))]) (fun z9 => True) ?_ (fun z9 _ => ?_)
  ·
    refine W.pre (K' := [(0, _), (1, _), (2, _), (3, _), (4, _), (6, _), (8, _)]) (L' := [(0, _), (101, _), (102, _)]) ?_ ⟨rfl, ⟨rfl, ⟨rfl, ⟨rfl, ⟨rfl, ⟨rfl, ⟨rfl, trivial⟩⟩⟩⟩⟩⟩⟩ ⟨rfl, ⟨rfl, ⟨rfl, trivial⟩⟩⟩
    refine W_draw (N := 11) (by kernel_rfl) rfl [(0, _), (101, _), (102, _)] ⟨rfl, ⟨rfl, ⟨rfl, trivial⟩⟩⟩ ?_
    refine (AH_take 0 rfl (by kernel_rfl) (by kernel_rfl) (by kernel_rfl) rfl rfl (by decide) (Pu_loadBN (r := 101) rfl Try.isAgg52 Try.sizeOf52 rfl rfl ((bs_length _).trans hn) (load_all ((bs_length _).trans hn))) (AH_take 1 rfl (by kernel_rfl) (by kernel_rfl) (by kernel_rfl) rfl rfl (by decide) (Pu_move rfl rfl) (AH_take 6 rfl (by kernel_rfl) (by kernel_rfl) (by kernel_rfl) rfl rfl (by decide) (Pu_sliceArr rfl Try.runUnderlying29 Try.sizeOf5 rfl) (AH_ready [2, 4, 9] (by kernel_rfl) (by decide) ?_))))
    refine AHs_cons rfl rfl rfl (by decide) (OpT_call 200 [0, 101, 102] [] rfl Try.call56 rfl rfl rfl (by decide) (by decide) (head5_spec nm hn q _) (fun v16 Ps16 hR16 => ?_)) ?_
    ·
      subst hR16
      refine ⟨⟨rfl, ⟨rfl, ⟨rfl, trivial⟩⟩⟩, ?_⟩
      refine (AH_ready [3, 4, 9] (by kernel_rfl) (by decide) ?_)
      refine AHs_cons rfl rfl rfl (by decide) (OpT_call 300 [0, 101, 102] [200] rfl Try.call55 rfl rfl rfl (by decide) (by decide) (two5_spec _ rfl _ (hdL nm q) 65533 (by rw [hdL_length hn]; omega) _) (fun v17 Ps17 hR17 => ?_)) ?_
      ·
        subst hR17
        refine ⟨⟨rfl, ⟨rfl, ⟨rfl, trivial⟩⟩⟩, ?_⟩
        refine (AH_ready [4, 9] (by kernel_rfl) (by decide) ?_)
        refine AHs_cons rfl rfl rfl (by decide) (OpT_buildOnes (r := 301) (bs [255]) rfl rfl Try.runUnderlying30 Try.sizeOf5 Try.zeroValue5 rfl rfl (by decide) rfl (bs_cells _) (fun v18 => ⟨⟨rfl, ⟨rfl, ⟨rfl, trivial⟩⟩⟩, ?_⟩)) ?_
        ·
          refine (AH_ready [5, 9] (by kernel_rfl) (by decide) ?_)
          refine AHs_cons rfl rfl rfl (by decide) (OpT_append (r := 300) (r2 := 301) rfl Try.underlying30 TI.hi5 TI.hz5 TI.hs5 TI.hby5 TI.hzs5 (by decide) rfl rfl rfl rfl (fun _ h => rowP_rd h) (bs_one _) (by unfold maxLen; simp [hdL_length hn, numB_length, *] <;> omega) (by simp [hdL_length hn, numB_length, *] <;> omega) (fun v19 => ?_)) ?_
          ·
            refine ⟨⟨rfl, ⟨rfl, ⟨rfl, trivial⟩⟩⟩, ?_⟩
            refine AH_turn (P' := rowB 5 v19 (hdL nm q ++ numB 65533 2 ++ [255])) 300 rfl (fun h hp => rowB_mk hp (by simp [hdL_length hn, numB_length, *] <;> omega) (by simp only [bs_append])) ?_
            refine (AH_ready [7, 9] (by kernel_rfl) (by decide) ?_)
            refine AHs_cons rfl rfl rfl (by decide) (OpT_append (r := 300) (r2 := 102) rfl Try.underlying30 TI.hi5 TI.hz5 TI.hs5 TI.hby5 TI.hzs5 (by decide) rfl rfl rfl rfl (fun _ h => blk_all h hs) (bs_one _) (by unfold maxLen; simp [hdL_length hn, numB_length, *] <;> omega) (by simp [hdL_length hn, numB_length, *] <;> omega) (fun v21 => ?_)) ?_
            ·
              refine ⟨⟨rfl, ⟨rfl, ⟨rfl, trivial⟩⟩⟩, ?_⟩
              refine AH_turn (P' := rowB 5 v21 (hdL nm q ++ numB 65533 2 ++ [255] ++ seed)) 300 rfl (fun h hp => rowB_mk hp (by simp [hdL_length hn, numB_length, *] <;> omega) (by simp only [bs_append])) ?_
              refine (AH_ready [8, 9] (by kernel_rfl) (by decide) ?_)
              refine AHs_cons rfl rfl rfl (by decide) (OpT_call 400 [0, 101, 102, 300, 301] [] rfl Try.call14 rfl rfl rfl (by decide) (by decide) (refSum_spec v21 (hdL nm q ++ numB 65533 2 ++ [255] ++ seed) (by simp [hdL_length hn, numB_length, *]) _ (rd_star 3 rfl rowB_rd)) (fun v22 Ps22 hR22 => ?_)) ?_
              ·
                obtain ⟨rfl, rfl⟩ := hR22
                refine ⟨⟨rfl, ⟨rfl, ⟨rfl, trivial⟩⟩⟩, ?_⟩
                refine (AH_ready [9] (by kernel_rfl) (by decide) ?_)
                refine AHs_cons rfl rfl rfl (by decide) (OpT_alloc (r := 401) (cs := (bs zeroId)) rfl (zero_run (by kernel_rfl : (Try.prog.info? 29).bind (·.zero) = some (.agg (bs zeroId).toArray))) rfl (fun g401 => ⟨⟨rfl, ⟨rfl, ⟨rfl, trivial⟩⟩⟩, ?_⟩)) ?_
                ·
                  refine (AH_ready [10] (by kernel_rfl) (by decide) ?_)
                  refine AHs_cons0 rfl rfl rfl (OpT_storeAll (r := 401) rfl Try.sizeOf29 rfl rfl rfl rfl ((bs_length _).trans (sha_length _)) (bs_one _) ?_) ?_
                  ·
                    refine ⟨⟨rfl, ⟨rfl, ⟨rfl, trivial⟩⟩⟩, ?_⟩
                    refine (AH_done (by kernel_rfl) ?_)
                    refine X_ren 401 181 rfl ?_
                    exact X_cut g401 trivial ⟨rfl, rfl, rfl, rfl, rfl, trivial⟩ ⟨rfl, rfl, rfl, rfl, trivial⟩
                  exact AHs_nil
                exact AHs_nil
              refine AHs_cons rfl rfl rfl (by decide) (OpT_alloc (r := 302) (cs := (bs zeroId)) rfl (zero_run (by kernel_rfl : (Try.prog.info? 29).bind (·.zero) = some (.agg (bs zeroId).toArray))) rfl (fun g302 => ⟨⟨rfl, ⟨rfl, ⟨rfl, trivial⟩⟩⟩, ?_⟩)) ?_
              ·
                refine (AH_ready [8] (by kernel_rfl) (by decide) ?_)
                refine AHs_cons rfl rfl rfl (by decide) (OpT_call 400 [0, 101, 102, 300, 301, 302] [] rfl Try.call14 rfl rfl rfl (by decide) (by decide) (refSum_spec v21 (hdL nm q ++ numB 65533 2 ++ [255] ++ seed) (by simp [hdL_length hn, numB_length, *]) _ (rd_star 3 rfl rowB_rd)) (fun v22 Ps22 hR22 => ?_)) ?_
                ·
                  obtain ⟨rfl, rfl⟩ := hR22
                  refine ⟨⟨rfl, ⟨rfl, ⟨rfl, trivial⟩⟩⟩, ?_⟩
                  refine (AH_ready [10] (by kernel_rfl) (by decide) ?_)
                  refine AHs_cons0 rfl rfl rfl (OpT_storeAll (r := 302) rfl Try.sizeOf29 rfl rfl rfl rfl ((bs_length _).trans (sha_length _)) (bs_one _) ?_) ?_
                  ·
                    refine ⟨⟨rfl, ⟨rfl, ⟨rfl, trivial⟩⟩⟩, ?_⟩
                    refine (AH_done (by kernel_rfl) ?_)
                    refine X_ren 302 181 rfl ?_
                    exact X_cut g302 trivial ⟨rfl, rfl, rfl, rfl, rfl, trivial⟩ ⟨rfl, rfl, rfl, rfl, trivial⟩
                  exact AHs_nil
                exact AHs_nil
              exact AHs_nil
            refine AHs_cons rfl rfl rfl (by decide) (OpT_alloc (r := 302) (cs := (bs zeroId)) rfl (zero_run (by kernel_rfl : (Try.prog.info? 29).bind (·.zero) = some (.agg (bs zeroId).toArray))) rfl (fun g302 => ⟨⟨rfl, ⟨rfl, ⟨rfl, trivial⟩⟩⟩, ?_⟩)) ?_
            ·
              refine (AH_ready [7] (by kernel_rfl) (by decide) ?_)
              refine AHs_cons rfl rfl rfl (by decide) (OpT_append (r := 300) (r2 := 102) rfl Try.underlying30 TI.hi5 TI.hz5 TI.hs5 TI.hby5 TI.hzs5 (by decide) rfl rfl rfl rfl (fun _ h => blk_all h hs) (bs_one _) (by unfold maxLen; simp [hdL_length hn, numB_length, *] <;> omega) (by simp [hdL_length hn, numB_length, *] <;> omega) (fun v21 => ?_)) ?_
              ·
                refine ⟨⟨rfl, ⟨rfl, ⟨rfl, trivial⟩⟩⟩, ?_⟩
                refine AH_turn (P' := rowB 5 v21 (hdL nm q ++ numB 65533 2 ++ [255] ++ seed)) 300 rfl (fun h hp => rowB_mk hp (by simp [hdL_length hn, numB_length, *] <;> omega) (by simp only [bs_append])) ?_
                refine (AH_ready [8] (by kernel_rfl) (by decide) ?_)
                refine AHs_cons rfl rfl rfl (by decide) (OpT_call 400 [0, 101, 102, 300, 301, 302] [] rfl Try.call14 rfl rfl rfl (by decide) (by decide) (refSum_spec v21 (hdL nm q ++ numB 65533 2 ++ [255] ++ seed) (by simp [hdL_length hn, numB_length, *]) _ (rd_star 3 rfl rowB_rd)) (fun v22 Ps22 hR22 => ?_)) ?_
                ·
                  obtain ⟨rfl, rfl⟩ := hR22
                  refine ⟨⟨rfl, ⟨rfl, ⟨rfl, trivial⟩⟩⟩, ?_⟩
                  refine (AH_ready [10] (by kernel_rfl) (by decide) ?_)
                  refine AHs_cons0 rfl rfl rfl (OpT_storeAll (r := 302) rfl Try.sizeOf29 rfl rfl rfl rfl ((bs_length _).trans (sha_length _)) (bs_one _) ?_) ?_
                  ·
                    refine ⟨⟨rfl, ⟨rfl, ⟨rfl, trivial⟩⟩⟩, ?_⟩
                    refine (AH_done (by kernel_rfl) ?_)
                    refine X_ren 302 181 rfl ?_
                    exact X_cut g302 trivial ⟨rfl, rfl, rfl, rfl, rfl, trivial⟩ ⟨rfl, rfl, rfl, rfl, trivial⟩
                  exact AHs_nil
                exact AHs_nil
              exact AHs_nil
            exact AHs_nil
          refine AHs_cons rfl rfl rfl (by decide) (OpT_alloc (r := 302) (cs := (bs zeroId)) rfl (zero_run (by kernel_rfl : (Try.prog.info? 29).bind (·.zero) = some (.agg (bs zeroId).toArray))) rfl (fun g302 => ⟨⟨rfl, ⟨rfl, ⟨rfl, trivial⟩⟩⟩, ?_⟩)) ?_
          ·
            refine (AH_ready [5] (by kernel_rfl) (by decide) ?_)
            refine AHs_cons rfl rfl rfl (by decide) (OpT_append (r := 300) (r2 := 301) rfl Try.underlying30 TI.hi5 TI.hz5 TI.hs5 TI.hby5 TI.hzs5 (by decide) rfl rfl rfl rfl (fun _ h => rowP_rd h) (bs_one _) (by unfold maxLen; simp [hdL_length hn, numB_length, *] <;> omega) (by simp [hdL_length hn, numB_length, *] <;> omega) (fun v19 => ?_)) ?_
            ·
              refine ⟨⟨rfl, ⟨rfl, ⟨rfl, trivial⟩⟩⟩, ?_⟩
              refine AH_turn (P' := rowB 5 v19 (hdL nm q ++ numB 65533 2 ++ [255])) 300 rfl (fun h hp => rowB_mk hp (by simp [hdL_length hn, numB_length, *] <;> omega) (by simp only [bs_append])) ?_
              refine (AH_ready [7] (by kernel_rfl) (by decide) ?_)
              refine AHs_cons rfl rfl rfl (by decide) (OpT_append (r := 300) (r2 := 102) rfl Try.underlying30 TI.hi5 TI.hz5 TI.hs5 TI.hby5 TI.hzs5 (by decide) rfl rfl rfl rfl (fun _ h => blk_all h hs) (bs_one _) (by unfold maxLen; simp [hdL_length hn, numB_length, *] <;> omega) (by simp [hdL_length hn, numB_length, *] <;> omega) (fun v21 => ?_)) ?_
              ·
                refine ⟨⟨rfl, ⟨rfl, ⟨rfl, trivial⟩⟩⟩, ?_⟩
                refine AH_turn (P' := rowB 5 v21 (hdL nm q ++ numB 65533 2 ++ [255] ++ seed)) 300 rfl (fun h hp => rowB_mk hp (by simp [hdL_length hn, numB_length, *] <;> omega) (by simp only [bs_append])) ?_
                refine (AH_ready [8] (by kernel_rfl) (by decide) ?_)
                refine AHs_cons rfl rfl rfl (by decide) (OpT_call 400 [0, 101, 102, 300, 301, 302] [] rfl Try.call14 rfl rfl rfl (by decide) (by decide) (refSum_spec v21 (hdL nm q ++ numB 65533 2 ++ [255] ++ seed) (by simp [hdL_length hn, numB_length, *]) _ (rd_star 3 rfl rowB_rd)) (fun v22 Ps22 hR22 => ?_)) ?_
                ·
                  obtain ⟨rfl, rfl⟩ := hR22
                  refine ⟨⟨rfl, ⟨rfl, ⟨rfl, trivial⟩⟩⟩, ?_⟩
                  refine (AH_ready [10] (by kernel_rfl) (by decide) ?_)
                  refine AHs_cons0 rfl rfl rfl (OpT_storeAll (r := 302) rfl Try.sizeOf29 rfl rfl rfl rfl ((bs_length _).trans (sha_length _)) (bs_one _) ?_) ?_
                  ·
                    refine ⟨⟨rfl, ⟨rfl, ⟨rfl, trivial⟩⟩⟩, ?_⟩
                    refine (AH_done (by kernel_rfl) ?_)
                    refine X_ren 302 181 rfl ?_
                    exact X_cut g302 trivial ⟨rfl, rfl, rfl, rfl, rfl, trivial⟩ ⟨rfl, rfl, rfl, rfl, trivial⟩
                  exact AHs_nil
                exact AHs_nil
              exact AHs_nil
            exact AHs_nil
          exact AHs_nil
        refine AHs_cons rfl rfl rfl (by decide) (OpT_alloc (r := 301) (cs := (bs zeroId)) rfl (zero_run (by kernel_rfl : (Try.prog.info? 29).bind (·.zero) = some (.agg (bs zeroId).toArray))) rfl (fun g301 => ⟨⟨rfl, ⟨rfl, ⟨rfl, trivial⟩⟩⟩, ?_⟩)) ?_
        ·
          refine (AH_ready [4] (by kernel_rfl) (by decide) ?_)
          refine AHs_cons rfl rfl rfl (by decide) (OpT_buildOnes (r := 302) (bs [255]) rfl rfl Try.runUnderlying30 Try.sizeOf5 Try.zeroValue5 rfl rfl (by decide) rfl (bs_cells _) (fun v18 => ⟨⟨rfl, ⟨rfl, ⟨rfl, trivial⟩⟩⟩, ?_⟩)) ?_
          ·
            refine (AH_ready [5] (by kernel_rfl) (by decide) ?_)
            refine AHs_cons rfl rfl rfl (by decide) (OpT_append (r := 300) (r2 := 302) rfl Try.underlying30 TI.hi5 TI.hz5 TI.hs5 TI.hby5 TI.hzs5 (by decide) rfl rfl rfl rfl (fun _ h => rowP_rd h) (bs_one _) (by unfold maxLen; simp [hdL_length hn, numB_length, *] <;> omega) (by simp [hdL_length hn, numB_length, *] <;> omega) (fun v19 => ?_)) ?_
            ·
              refine ⟨⟨rfl, ⟨rfl, ⟨rfl, trivial⟩⟩⟩, ?_⟩
              refine AH_turn (P' := rowB 5 v19 (hdL nm q ++ numB 65533 2 ++ [255])) 300 rfl (fun h hp => rowB_mk hp (by simp [hdL_length hn, numB_length, *] <;> omega) (by simp only [bs_append])) ?_
              refine (AH_ready [7] (by kernel_rfl) (by decide) ?_)
              refine AHs_cons rfl rfl rfl (by decide) (OpT_append (r := 300) (r2 := 102) rfl Try.underlying30 TI.hi5 TI.hz5 TI.hs5 TI.hby5 TI.hzs5 (by decide) rfl rfl rfl rfl (fun _ h => blk_all h hs) (bs_one _) (by unfold maxLen; simp [hdL_length hn, numB_length, *] <;> omega) (by simp [hdL_length hn, numB_length, *] <;> omega) (fun v21 => ?_)) ?_
              ·
                refine ⟨⟨rfl, ⟨rfl, ⟨rfl, trivial⟩⟩⟩, ?_⟩
                refine AH_turn (P' := rowB 5 v21 (hdL nm q ++ numB 65533 2 ++ [255] ++ seed)) 300 rfl (fun h hp => rowB_mk hp (by simp [hdL_length hn, numB_length, *] <;> omega) (by simp only [bs_append])) ?_
                refine (AH_ready [8] (by kernel_rfl) (by decide) ?_)
                refine AHs_cons rfl rfl rfl (by decide) (OpT_call 400 [0, 101, 102, 300, 301, 302] [] rfl Try.call14 rfl rfl rfl (by decide) (by decide) (refSum_spec v21 (hdL nm q ++ numB 65533 2 ++ [255] ++ seed) (by simp [hdL_length hn, numB_length, *]) _ (rd_star 3 rfl rowB_rd)) (fun v22 Ps22 hR22 => ?_)) ?_
                ·
                  obtain ⟨rfl, rfl⟩ := hR22
                  refine ⟨⟨rfl, ⟨rfl, ⟨rfl, trivial⟩⟩⟩, ?_⟩
                  refine (AH_ready [10] (by kernel_rfl) (by decide) ?_)
                  refine AHs_cons0 rfl rfl rfl (OpT_storeAll (r := 301) rfl Try.sizeOf29 rfl rfl rfl rfl ((bs_length _).trans (sha_length _)) (bs_one _) ?_) ?_
                  ·
                    refine ⟨⟨rfl, ⟨rfl, ⟨rfl, trivial⟩⟩⟩, ?_⟩
                    refine (AH_done (by kernel_rfl) ?_)
                    refine X_ren 301 181 rfl ?_
                    exact X_cut g301 trivial ⟨rfl, rfl, rfl, rfl, rfl, trivial⟩ ⟨rfl, rfl, rfl, rfl, trivial⟩
                  exact AHs_nil
                exact AHs_nil
              exact AHs_nil
            exact AHs_nil
          exact AHs_nil
        exact AHs_nil
      refine AHs_cons rfl rfl rfl (by decide) (OpT_buildOnes (r := 201) (bs [255]) rfl rfl Try.runUnderlying30 Try.sizeOf5 Try.zeroValue5 rfl rfl (by decide) rfl (bs_cells _) (fun v18 => ⟨⟨rfl, ⟨rfl, ⟨rfl, trivial⟩⟩⟩, ?_⟩)) ?_
      ·
        refine (AH_ready [3, 9] (by kernel_rfl) (by decide) ?_)
        refine AHs_cons rfl rfl rfl (by decide) (OpT_call 300 [0, 101, 102, 201] [200] rfl Try.call55 rfl rfl rfl (by decide) (by decide) (two5_spec _ rfl _ (hdL nm q) 65533 (by rw [hdL_length hn]; omega) _) (fun v17 Ps17 hR17 => ?_)) ?_
        ·
          subst hR17
          refine ⟨⟨rfl, ⟨rfl, ⟨rfl, trivial⟩⟩⟩, ?_⟩
          refine (AH_ready [5, 9] (by kernel_rfl) (by decide) ?_)
          refine AHs_cons rfl rfl rfl (by decide) (OpT_append (r := 300) (r2 := 201) rfl Try.underlying30 TI.hi5 TI.hz5 TI.hs5 TI.hby5 TI.hzs5 (by decide) rfl rfl rfl rfl (fun _ h => rowP_rd h) (bs_one _) (by unfold maxLen; simp [hdL_length hn, numB_length, *] <;> omega) (by simp [hdL_length hn, numB_length, *] <;> omega) (fun v19 => ?_)) ?_
          ·
            refine ⟨⟨rfl, ⟨rfl, ⟨rfl, trivial⟩⟩⟩, ?_⟩
            refine AH_turn (P' := rowB 5 v19 (hdL nm q ++ numB 65533 2 ++ [255])) 300 rfl (fun h hp => rowB_mk hp (by simp [hdL_length hn, numB_length, *] <;> omega) (by simp only [bs_append])) ?_
            refine (AH_ready [7, 9] (by kernel_rfl) (by decide) ?_)
            refine AHs_cons rfl rfl rfl (by decide) (OpT_append (r := 300) (r2 := 102) rfl Try.underlying30 TI.hi5 TI.hz5 TI.hs5 TI.hby5 TI.hzs5 (by decide) rfl rfl rfl rfl (fun _ h => blk_all h hs) (bs_one _) (by unfold maxLen; simp [hdL_length hn, numB_length, *] <;> omega) (by simp [hdL_length hn, numB_length, *] <;> omega) (fun v21 => ?_)) ?_
            ·
              refine ⟨⟨rfl, ⟨rfl, ⟨rfl, trivial⟩⟩⟩, ?_⟩
              refine AH_turn (P' := rowB 5 v21 (hdL nm q ++ numB 65533 2 ++ [255] ++ seed)) 300 rfl (fun h hp => rowB_mk hp (by simp [hdL_length hn, numB_length, *] <;> omega) (by simp only [bs_append])) ?_
              refine (AH_ready [8, 9] (by kernel_rfl) (by decide) ?_)
              refine AHs_cons rfl rfl rfl (by decide) (OpT_call 400 [0, 101, 102, 201, 300] [] rfl Try.call14 rfl rfl rfl (by decide) (by decide) (refSum_spec v21 (hdL nm q ++ numB 65533 2 ++ [255] ++ seed) (by simp [hdL_length hn, numB_length, *]) _ (rd_star 4 rfl rowB_rd)) (fun v22 Ps22 hR22 => ?_)) ?_
              ·
                obtain ⟨rfl, rfl⟩ := hR22
                refine ⟨⟨rfl, ⟨rfl, ⟨rfl, trivial⟩⟩⟩, ?_⟩
                refine (AH_ready [9] (by kernel_rfl) (by decide) ?_)
                refine AHs_cons rfl rfl rfl (by decide) (OpT_alloc (r := 401) (cs := (bs zeroId)) rfl (zero_run (by kernel_rfl : (Try.prog.info? 29).bind (·.zero) = some (.agg (bs zeroId).toArray))) rfl (fun g401 => ⟨⟨rfl, ⟨rfl, ⟨rfl, trivial⟩⟩⟩, ?_⟩)) ?_
                ·
                  refine (AH_ready [10] (by kernel_rfl) (by decide) ?_)
                  refine AHs_cons0 rfl rfl rfl (OpT_storeAll (r := 401) rfl Try.sizeOf29 rfl rfl rfl rfl ((bs_length _).trans (sha_length _)) (bs_one _) ?_) ?_
                  ·
                    refine ⟨⟨rfl, ⟨rfl, ⟨rfl, trivial⟩⟩⟩, ?_⟩
                    refine (AH_done (by kernel_rfl) ?_)
                    refine X_ren 401 181 rfl ?_
                    exact X_cut g401 trivial ⟨rfl, rfl, rfl, rfl, rfl, trivial⟩ ⟨rfl, rfl, rfl, rfl, trivial⟩
                  exact AHs_nil
                exact AHs_nil
              refine AHs_cons rfl rfl rfl (by decide) (OpT_alloc (r := 301) (cs := (bs zeroId)) rfl (zero_run (by kernel_rfl : (Try.prog.info? 29).bind (·.zero) = some (.agg (bs zeroId).toArray))) rfl (fun g301 => ⟨⟨rfl, ⟨rfl, ⟨rfl, trivial⟩⟩⟩, ?_⟩)) ?_
              ·
                refine (AH_ready [8] (by kernel_rfl) (by decide) ?_)
                refine AHs_cons rfl rfl rfl (by decide) (OpT_call 400 [0, 101, 102, 201, 300, 301] [] rfl Try.call14 rfl rfl rfl (by decide) (by decide) (refSum_spec v21 (hdL nm q ++ numB 65533 2 ++ [255] ++ seed) (by simp [hdL_length hn, numB_length, *]) _ (rd_star 4 rfl rowB_rd)) (fun v22 Ps22 hR22 => ?_)) ?_
                ·
                  obtain ⟨rfl, rfl⟩ := hR22
                  refine ⟨⟨rfl, ⟨rfl, ⟨rfl, trivial⟩⟩⟩, ?_⟩
                  refine (AH_ready [10] (by kernel_rfl) (by decide) ?_)
                  refine AHs_cons0 rfl rfl rfl (OpT_storeAll (r := 301) rfl Try.sizeOf29 rfl rfl rfl rfl ((bs_length _).trans (sha_length _)) (bs_one _) ?_) ?_
                  ·
                    refine ⟨⟨rfl, ⟨rfl, ⟨rfl, trivial⟩⟩⟩, ?_⟩
                    refine (AH_done (by kernel_rfl) ?_)
                    refine X_ren 301 181 rfl ?_
                    exact X_cut g301 trivial ⟨rfl, rfl, rfl, rfl, rfl, trivial⟩ ⟨rfl, rfl, rfl, rfl, trivial⟩
                  exact AHs_nil
                exact AHs_nil
              exact AHs_nil
            refine AHs_cons rfl rfl rfl (by decide) (OpT_alloc (r := 301) (cs := (bs zeroId)) rfl (zero_run (by kernel_rfl : (Try.prog.info? 29).bind (·.zero) = some (.agg (bs zeroId).toArray))) rfl (fun g301 => ⟨⟨rfl, ⟨rfl, ⟨rfl, trivial⟩⟩⟩, ?_⟩)) ?_
            ·
              refine (AH_ready [7] (by kernel_rfl) (by decide) ?_)
              refine AHs_cons rfl rfl rfl (by decide) (OpT_append (r := 300) (r2 := 102) rfl Try.underlying30 TI.hi5 TI.hz5 TI.hs5 TI.hby5 TI.hzs5 (by decide) rfl rfl rfl rfl (fun _ h => blk_all h hs) (bs_one _) (by unfold maxLen; simp [hdL_length hn, numB_length, *] <;> omega) (by simp [hdL_length hn, numB_length, *] <;> omega) (fun v21 => ?_)) ?_
              ·
                refine ⟨⟨rfl, ⟨rfl, ⟨rfl, trivial⟩⟩⟩, ?_⟩
                refine AH_turn (P' := rowB 5 v21 (hdL nm q ++ numB 65533 2 ++ [255] ++ seed)) 300 rfl (fun h hp => rowB_mk hp (by simp [hdL_length hn, numB_length, *] <;> omega) (by simp only [bs_append])) ?_
                refine (AH_ready [8] (by kernel_rfl) (by decide) ?_)
                refine AHs_cons rfl rfl rfl (by decide) (OpT_call 400 [0, 101, 102, 201, 300, 301] [] rfl Try.call14 rfl rfl rfl (by decide) (by decide) (refSum_spec v21 (hdL nm q ++ numB 65533 2 ++ [255] ++ seed) (by simp [hdL_length hn, numB_length, *]) _ (rd_star 4 rfl rowB_rd)) (fun v22 Ps22 hR22 => ?_)) ?_
                ·
                  obtain ⟨rfl, rfl⟩ := hR22
                  refine ⟨⟨rfl, ⟨rfl, ⟨rfl, trivial⟩⟩⟩, ?_⟩
                  refine (AH_ready [10] (by kernel_rfl) (by decide) ?_)
                  refine AHs_cons0 rfl rfl rfl (OpT_storeAll (r := 301) rfl Try.sizeOf29 rfl rfl rfl rfl ((bs_length _).trans (sha_length _)) (bs_one _) ?_) ?_
                  ·
                    refine ⟨⟨rfl, ⟨rfl, ⟨rfl, trivial⟩⟩⟩, ?_⟩
                    refine (AH_done (by kernel_rfl) ?_)
                    refine X_ren 301 181 rfl ?_
                    exact X_cut g301 trivial ⟨rfl, rfl, rfl, rfl, rfl, trivial⟩ ⟨rfl, rfl, rfl, rfl, trivial⟩
                  exact AHs_nil
                exact AHs_nil
              exact AHs_nil
            exact AHs_nil
          refine AHs_cons rfl rfl rfl (by decide) (OpT_alloc (r := 301) (cs := (bs zeroId)) rfl (zero_run (by kernel_rfl : (Try.prog.info? 29).bind (·.zero) = some (.agg (bs zeroId).toArray))) rfl (fun g301 => ⟨⟨rfl, ⟨rfl, ⟨rfl, trivial⟩⟩⟩, ?_⟩)) ?_
          ·
            refine (AH_ready [5] (by kernel_rfl) (by decide) ?_)
            refine AHs_cons rfl rfl rfl (by decide) (OpT_append (r := 300) (r2 := 201) rfl Try.underlying30 TI.hi5 TI.hz5 TI.hs5 TI.hby5 TI.hzs5 (by decide) rfl rfl rfl rfl (fun _ h => rowP_rd h) (bs_one _) (by unfold maxLen; simp [hdL_length hn, numB_length, *] <;> omega) (by simp [hdL_length hn, numB_length, *] <;> omega) (fun v19 => ?_)) ?_
            ·
              refine ⟨⟨rfl, ⟨rfl, ⟨rfl, trivial⟩⟩⟩, ?_⟩
              refine AH_turn (P' := rowB 5 v19 (hdL nm q ++ numB 65533 2 ++ [255])) 300 rfl (fun h hp => rowB_mk hp (by simp [hdL_length hn, numB_length, *] <;> omega) (by simp only [bs_append])) ?_
              refine (AH_ready [7] (by kernel_rfl) (by decide) ?_)
              refine AHs_cons rfl rfl rfl (by decide) (OpT_append (r := 300) (r2 := 102) rfl Try.underlying30 TI.hi5 TI.hz5 TI.hs5 TI.hby5 TI.hzs5 (by decide) rfl rfl rfl rfl (fun _ h => blk_all h hs) (bs_one _) (by unfold maxLen; simp [hdL_length hn, numB_length, *] <;> omega) (by simp [hdL_length hn, numB_length, *] <;> omega) (fun v21 => ?_)) ?_
              ·
                refine ⟨⟨rfl, ⟨rfl, ⟨rfl, trivial⟩⟩⟩, ?_⟩
                refine AH_turn (P' := rowB 5 v21 (hdL nm q ++ numB 65533 2 ++ [255] ++ seed)) 300 rfl (fun h hp => rowB_mk hp (by simp [hdL_length hn, numB_length, *] <;> omega) (by simp only [bs_append])) ?_
                refine (AH_ready [8] (by kernel_rfl) (by decide) ?_)
                refine AHs_cons rfl rfl rfl (by decide) (OpT_call 400 [0, 101, 102, 201, 300, 301] [] rfl Try.call14 rfl rfl rfl (by decide) (by decide) (refSum_spec v21 (hdL nm q ++ numB 65533 2 ++ [255] ++ seed) (by simp [hdL_length hn, numB_length, *]) _ (rd_star 4 rfl rowB_rd)) (fun v22 Ps22 hR22 => ?_)) ?_
                ·
                  obtain ⟨rfl, rfl⟩ := hR22
                  refine ⟨⟨rfl, ⟨rfl, ⟨rfl, trivial⟩⟩⟩, ?_⟩
                  refine (AH_ready [10] (by kernel_rfl) (by decide) ?_)
                  refine AHs_cons0 rfl rfl rfl (OpT_storeAll (r := 301) rfl Try.sizeOf29 rfl rfl rfl rfl ((bs_length _).trans (sha_length _)) (bs_one _) ?_) ?_
                  ·
                    refine ⟨⟨rfl, ⟨rfl, ⟨rfl, trivial⟩⟩⟩, ?_⟩
                    refine (AH_done (by kernel_rfl) ?_)
                    refine X_ren 301 181 rfl ?_
                    exact X_cut g301 trivial ⟨rfl, rfl, rfl, rfl, rfl, trivial⟩ ⟨rfl, rfl, rfl, rfl, trivial⟩
                  exact AHs_nil
                exact AHs_nil
              exact AHs_nil
            exact AHs_nil
          exact AHs_nil
        refine AHs_cons rfl rfl rfl (by decide) (OpT_alloc (r := 202) (cs := (bs zeroId)) rfl (zero_run (by kernel_rfl : (Try.prog.info? 29).bind (·.zero) = some (.agg (bs zeroId).toArray))) rfl (fun g202 => ⟨⟨rfl, ⟨rfl, ⟨rfl, trivial⟩⟩⟩, ?_⟩)) ?_
        ·
          refine (AH_ready [3] (by kernel_rfl) (by decide) ?_)
          refine AHs_cons rfl rfl rfl (by decide) (OpT_call 300 [0, 101, 102, 201, 202] [200] rfl Try.call55 rfl rfl rfl (by decide) (by decide) (two5_spec _ rfl _ (hdL nm q) 65533 (by rw [hdL_length hn]; omega) _) (fun v17 Ps17 hR17 => ?_)) ?_
          ·
            subst hR17
            refine ⟨⟨rfl, ⟨rfl, ⟨rfl, trivial⟩⟩⟩, ?_⟩
            refine (AH_ready [5] (by kernel_rfl) (by decide) ?_)
            refine AHs_cons rfl rfl rfl (by decide) (OpT_append (r := 300) (r2 := 201) rfl Try.underlying30 TI.hi5 TI.hz5 TI.hs5 TI.hby5 TI.hzs5 (by decide) rfl rfl rfl rfl (fun _ h => rowP_rd h) (bs_one _) (by unfold maxLen; simp [hdL_length hn, numB_length, *] <;> omega) (by simp [hdL_length hn, numB_length, *] <;> omega) (fun v19 => ?_)) ?_
            ·
              refine ⟨⟨rfl, ⟨rfl, ⟨rfl, trivial⟩⟩⟩, ?_⟩
              refine AH_turn (P' := rowB 5 v19 (hdL nm q ++ numB 65533 2 ++ [255])) 300 rfl (fun h hp => rowB_mk hp (by simp [hdL_length hn, numB_length, *] <;> omega) (by simp only [bs_append])) ?_
              refine (AH_ready [7] (by kernel_rfl) (by decide) ?_)
              refine AHs_cons rfl rfl rfl (by decide) (OpT_append (r := 300) (r2 := 102) rfl Try.underlying30 TI.hi5 TI.hz5 TI.hs5 TI.hby5 TI.hzs5 (by decide) rfl rfl rfl rfl (fun _ h => blk_all h hs) (bs_one _) (by unfold maxLen; simp [hdL_length hn, numB_length, *] <;> omega) (by simp [hdL_length hn, numB_length, *] <;> omega) (fun v21 => ?_)) ?_
              ·
                refine ⟨⟨rfl, ⟨rfl, ⟨rfl, trivial⟩⟩⟩, ?_⟩
                refine AH_turn (P' := rowB 5 v21 (hdL nm q ++ numB 65533 2 ++ [255] ++ seed)) 300 rfl (fun h hp => rowB_mk hp (by simp [hdL_length hn, numB_length, *] <;> omega) (by simp only [bs_append])) ?_
                refine (AH_ready [8] (by kernel_rfl) (by decide) ?_)
                refine AHs_cons rfl rfl rfl (by decide) (OpT_call 400 [0, 101, 102, 201, 202, 300] [] rfl Try.call14 rfl rfl rfl (by decide) (by decide) (refSum_spec v21 (hdL nm q ++ numB 65533 2 ++ [255] ++ seed) (by simp [hdL_length hn, numB_length, *]) _ (rd_star 5 rfl rowB_rd)) (fun v22 Ps22 hR22 => ?_)) ?_
                ·
                  obtain ⟨rfl, rfl⟩ := hR22
                  refine ⟨⟨rfl, ⟨rfl, ⟨rfl, trivial⟩⟩⟩, ?_⟩
                  refine (AH_ready [10] (by kernel_rfl) (by decide) ?_)
                  refine AHs_cons0 rfl rfl rfl (OpT_storeAll (r := 202) rfl Try.sizeOf29 rfl rfl rfl rfl ((bs_length _).trans (sha_length _)) (bs_one _) ?_) ?_
                  ·
                    refine ⟨⟨rfl, ⟨rfl, ⟨rfl, trivial⟩⟩⟩, ?_⟩
                    refine (AH_done (by kernel_rfl) ?_)
                    refine X_ren 202 181 rfl ?_
                    exact X_cut g202 trivial ⟨rfl, rfl, rfl, rfl, rfl, trivial⟩ ⟨rfl, rfl, rfl, rfl, trivial⟩
                  exact AHs_nil
                exact AHs_nil
              exact AHs_nil
            exact AHs_nil
          exact AHs_nil
        exact AHs_nil
      refine AHs_cons rfl rfl rfl (by decide) (OpT_alloc (r := 201) (cs := (bs zeroId)) rfl (zero_run (by kernel_rfl : (Try.prog.info? 29).bind (·.zero) = some (.agg (bs zeroId).toArray))) rfl (fun g201 => ⟨⟨rfl, ⟨rfl, ⟨rfl, trivial⟩⟩⟩, ?_⟩)) ?_
      ·
        refine (AH_ready [3, 4] (by kernel_rfl) (by decide) ?_)
        refine AHs_cons rfl rfl rfl (by decide) (OpT_call 300 [0, 101, 102, 201] [200] rfl Try.call55 rfl rfl rfl (by decide) (by decide) (two5_spec _ rfl _ (hdL nm q) 65533 (by rw [hdL_length hn]; omega) _) (fun v17 Ps17 hR17 => ?_)) ?_
        ·
          subst hR17
          refine ⟨⟨rfl, ⟨rfl, ⟨rfl, trivial⟩⟩⟩, ?_⟩
          refine (AH_ready [4] (by kernel_rfl) (by decide) ?_)
          refine AHs_cons rfl rfl rfl (by decide) (OpT_buildOnes (r := 301) (bs [255]) rfl rfl Try.runUnderlying30 Try.sizeOf5 Try.zeroValue5 rfl rfl (by decide) rfl (bs_cells _) (fun v18 => ⟨⟨rfl, ⟨rfl, ⟨rfl, trivial⟩⟩⟩, ?_⟩)) ?_
          ·
            refine (AH_ready [5] (by kernel_rfl) (by decide) ?_)
            refine AHs_cons rfl rfl rfl (by decide) (OpT_append (r := 300) (r2 := 301) rfl Try.underlying30 TI.hi5 TI.hz5 TI.hs5 TI.hby5 TI.hzs5 (by decide) rfl rfl rfl rfl (fun _ h => rowP_rd h) (bs_one _) (by unfold maxLen; simp [hdL_length hn, numB_length, *] <;> omega) (by simp [hdL_length hn, numB_length, *] <;> omega) (fun v19 => ?_)) ?_
            ·
              refine ⟨⟨rfl, ⟨rfl, ⟨rfl, trivial⟩⟩⟩, ?_⟩
              refine AH_turn (P' := rowB 5 v19 (hdL nm q ++ numB 65533 2 ++ [255])) 300 rfl (fun h hp => rowB_mk hp (by simp [hdL_length hn, numB_length, *] <;> omega) (by simp only [bs_append])) ?_
              refine (AH_ready [7] (by kernel_rfl) (by decide) ?_)
              refine AHs_cons rfl rfl rfl (by decide) (OpT_append (r := 300) (r2 := 102) rfl Try.underlying30 TI.hi5 TI.hz5 TI.hs5 TI.hby5 TI.hzs5 (by decide) rfl rfl rfl rfl (fun _ h => blk_all h hs) (bs_one _) (by unfold maxLen; simp [hdL_length hn, numB_length, *] <;> omega) (by simp [hdL_length hn, numB_length, *] <;> omega) (fun v21 => ?_)) ?_
              ·
                refine ⟨⟨rfl, ⟨rfl, ⟨rfl, trivial⟩⟩⟩, ?_⟩
                refine AH_turn (P' := rowB 5 v21 (hdL nm q ++ numB 65533 2 ++ [255] ++ seed)) 300 rfl (fun h hp => rowB_mk hp (by simp [hdL_length hn, numB_length, *] <;> omega) (by simp only [bs_append])) ?_
                refine (AH_ready [8] (by kernel_rfl) (by decide) ?_)
                refine AHs_cons rfl rfl rfl (by decide) (OpT_call 400 [0, 101, 102, 201, 300, 301] [] rfl Try.call14 rfl rfl rfl (by decide) (by decide) (refSum_spec v21 (hdL nm q ++ numB 65533 2 ++ [255] ++ seed) (by simp [hdL_length hn, numB_length, *]) _ (rd_star 4 rfl rowB_rd)) (fun v22 Ps22 hR22 => ?_)) ?_
                ·
                  obtain ⟨rfl, rfl⟩ := hR22
                  refine ⟨⟨rfl, ⟨rfl, ⟨rfl, trivial⟩⟩⟩, ?_⟩
                  refine (AH_ready [10] (by kernel_rfl) (by decide) ?_)
                  refine AHs_cons0 rfl rfl rfl (OpT_storeAll (r := 201) rfl Try.sizeOf29 rfl rfl rfl rfl ((bs_length _).trans (sha_length _)) (bs_one _) ?_) ?_
                  ·
                    refine ⟨⟨rfl, ⟨rfl, ⟨rfl, trivial⟩⟩⟩, ?_⟩
                    refine (AH_done (by kernel_rfl) ?_)
                    refine X_ren 201 181 rfl ?_
                    exact X_cut g201 trivial ⟨rfl, rfl, rfl, rfl, rfl, trivial⟩ ⟨rfl, rfl, rfl, rfl, trivial⟩
                  exact AHs_nil
                exact AHs_nil
              exact AHs_nil
            exact AHs_nil
          exact AHs_nil
        refine AHs_cons rfl rfl rfl (by decide) (OpT_buildOnes (r := 202) (bs [255]) rfl rfl Try.runUnderlying30 Try.sizeOf5 Try.zeroValue5 rfl rfl (by decide) rfl (bs_cells _) (fun v18 => ⟨⟨rfl, ⟨rfl, ⟨rfl, trivial⟩⟩⟩, ?_⟩)) ?_
        ·
          refine (AH_ready [3] (by kernel_rfl) (by decide) ?_)
          refine AHs_cons rfl rfl rfl (by decide) (OpT_call 300 [0, 101, 102, 201, 202] [200] rfl Try.call55 rfl rfl rfl (by decide) (by decide) (two5_spec _ rfl _ (hdL nm q) 65533 (by rw [hdL_length hn]; omega) _) (fun v17 Ps17 hR17 => ?_)) ?_
          ·
            subst hR17
            refine ⟨⟨rfl, ⟨rfl, ⟨rfl, trivial⟩⟩⟩, ?_⟩
            refine (AH_ready [5] (by kernel_rfl) (by decide) ?_)
            refine AHs_cons rfl rfl rfl (by decide) (OpT_append (r := 300) (r2 := 202) rfl Try.underlying30 TI.hi5 TI.hz5 TI.hs5 TI.hby5 TI.hzs5 (by decide) rfl rfl rfl rfl (fun _ h => rowP_rd h) (bs_one _) (by unfold maxLen; simp [hdL_length hn, numB_length, *] <;> omega) (by simp [hdL_length hn, numB_length, *] <;> omega) (fun v19 => ?_)) ?_
            ·
              refine ⟨⟨rfl, ⟨rfl, ⟨rfl, trivial⟩⟩⟩, ?_⟩
              refine AH_turn (P' := rowB 5 v19 (hdL nm q ++ numB 65533 2 ++ [255])) 300 rfl (fun h hp => rowB_mk hp (by simp [hdL_length hn, numB_length, *] <;> omega) (by simp only [bs_append])) ?_
              refine (AH_ready [7] (by kernel_rfl) (by decide) ?_)
              refine AHs_cons rfl rfl rfl (by decide) (OpT_append (r := 300) (r2 := 102) rfl Try.underlying30 TI.hi5 TI.hz5 TI.hs5 TI.hby5 TI.hzs5 (by decide) rfl rfl rfl rfl (fun _ h => blk_all h hs) (bs_one _) (by unfold maxLen; simp [hdL_length hn, numB_length, *] <;> omega) (by simp [hdL_length hn, numB_length, *] <;> omega) (fun v21 => ?_)) ?_
              ·
                refine ⟨⟨rfl, ⟨rfl, ⟨rfl, trivial⟩⟩⟩, ?_⟩
                refine AH_turn (P' := rowB 5 v21 (hdL nm q ++ numB 65533 2 ++ [255] ++ seed)) 300 rfl (fun h hp => rowB_mk hp (by simp [hdL_length hn, numB_length, *] <;> omega) (by simp only [bs_append])) ?_
                refine (AH_ready [8] (by kernel_rfl) (by decide) ?_)
                refine AHs_cons rfl rfl rfl (by decide) (OpT_call 400 [0, 101, 102, 201, 202, 300] [] rfl Try.call14 rfl rfl rfl (by decide) (by decide) (refSum_spec v21 (hdL nm q ++ numB 65533 2 ++ [255] ++ seed) (by simp [hdL_length hn, numB_length, *]) _ (rd_star 5 rfl rowB_rd)) (fun v22 Ps22 hR22 => ?_)) ?_
                ·
                  obtain ⟨rfl, rfl⟩ := hR22
                  refine ⟨⟨rfl, ⟨rfl, ⟨rfl, trivial⟩⟩⟩, ?_⟩
                  refine (AH_ready [10] (by kernel_rfl) (by decide) ?_)
                  refine AHs_cons0 rfl rfl rfl (OpT_storeAll (r := 201) rfl Try.sizeOf29 rfl rfl rfl rfl ((bs_length _).trans (sha_length _)) (bs_one _) ?_) ?_
                  ·
                    refine ⟨⟨rfl, ⟨rfl, ⟨rfl, trivial⟩⟩⟩, ?_⟩
                    refine (AH_done (by kernel_rfl) ?_)
                    refine X_ren 201 181 rfl ?_
                    exact X_cut g201 trivial ⟨rfl, rfl, rfl, rfl, rfl, trivial⟩ ⟨rfl, rfl, rfl, rfl, trivial⟩
                  exact AHs_nil
                exact AHs_nil
              exact AHs_nil
            exact AHs_nil
          exact AHs_nil
        exact AHs_nil
      exact AHs_nil
    refine AHs_cons rfl rfl rfl (by decide) (OpT_buildOnes (r := 103) (bs [255]) rfl rfl Try.runUnderlying30 Try.sizeOf5 Try.zeroValue5 rfl rfl (by decide) rfl (bs_cells _) (fun v18 => ⟨⟨rfl, ⟨rfl, ⟨rfl, trivial⟩⟩⟩, ?_⟩)) ?_
    ·
      refine (AH_ready [2, 9] (by kernel_rfl) (by decide) ?_)
      refine AHs_cons rfl rfl rfl (by decide) (OpT_call 200 [0, 101, 102, 103] [] rfl Try.call56 rfl rfl rfl (by decide) (by decide) (head5_spec nm hn q _) (fun v16 Ps16 hR16 => ?_)) ?_
      ·
        subst hR16
        refine ⟨⟨rfl, ⟨rfl, ⟨rfl, trivial⟩⟩⟩, ?_⟩
        refine (AH_ready [3, 9] (by kernel_rfl) (by decide) ?_)
        refine AHs_cons rfl rfl rfl (by decide) (OpT_call 300 [0, 101, 102, 103] [200] rfl Try.call55 rfl rfl rfl (by decide) (by decide) (two5_spec _ rfl _ (hdL nm q) 65533 (by rw [hdL_length hn]; omega) _) (fun v17 Ps17 hR17 => ?_)) ?_
        ·
          subst hR17
          refine ⟨⟨rfl, ⟨rfl, ⟨rfl, trivial⟩⟩⟩, ?_⟩
          refine (AH_ready [5, 9] (by kernel_rfl) (by decide) ?_)
          refine AHs_cons rfl rfl rfl (by decide) (OpT_append (r := 300) (r2 := 103) rfl Try.underlying30 TI.hi5 TI.hz5 TI.hs5 TI.hby5 TI.hzs5 (by decide) rfl rfl rfl rfl (fun _ h => rowP_rd h) (bs_one _) (by unfold maxLen; simp [hdL_length hn, numB_length, *] <;> omega) (by simp [hdL_length hn, numB_length, *] <;> omega) (fun v19 => ?_)) ?_
          ·
            refine ⟨⟨rfl, ⟨rfl, ⟨rfl, trivial⟩⟩⟩, ?_⟩
            refine AH_turn (P' := rowB 5 v19 (hdL nm q ++ numB 65533 2 ++ [255])) 300 rfl (fun h hp => rowB_mk hp (by simp [hdL_length hn, numB_length, *] <;> omega) (by simp only [bs_append])) ?_
            refine (AH_ready [7, 9] (by kernel_rfl) (by decide) ?_)
            refine AHs_cons rfl rfl rfl (by decide) (OpT_append (r := 300) (r2 := 102) rfl Try.underlying30 TI.hi5 TI.hz5 TI.hs5 TI.hby5 TI.hzs5 (by decide) rfl rfl rfl rfl (fun _ h => blk_all h hs) (bs_one _) (by unfold maxLen; simp [hdL_length hn, numB_length, *] <;> omega) (by simp [hdL_length hn, numB_length, *] <;> omega) (fun v21 => ?_)) ?_
            ·
              refine ⟨⟨rfl, ⟨rfl, ⟨rfl, trivial⟩⟩⟩, ?_⟩
              refine AH_turn (P' := rowB 5 v21 (hdL nm q ++ numB 65533 2 ++ [255] ++ seed)) 300 rfl (fun h hp => rowB_mk hp (by simp [hdL_length hn, numB_length, *] <;> omega) (by simp only [bs_append])) ?_
              refine (AH_ready [8, 9] (by kernel_rfl) (by decide) ?_)
              refine AHs_cons rfl rfl rfl (by decide) (OpT_call 400 [0, 101, 102, 103, 300] [] rfl Try.call14 rfl rfl rfl (by decide) (by decide) (refSum_spec v21 (hdL nm q ++ numB 65533 2 ++ [255] ++ seed) (by simp [hdL_length hn, numB_length, *]) _ (rd_star 4 rfl rowB_rd)) (fun v22 Ps22 hR22 => ?_)) ?_
              ·
                obtain ⟨rfl, rfl⟩ := hR22
                refine ⟨⟨rfl, ⟨rfl, ⟨rfl, trivial⟩⟩⟩, ?_⟩
                refine (AH_ready [9] (by kernel_rfl) (by decide) ?_)
                refine AHs_cons rfl rfl rfl (by decide) (OpT_alloc (r := 401) (cs := (bs zeroId)) rfl (zero_run (by kernel_rfl : (Try.prog.info? 29).bind (·.zero) = some (.agg (bs zeroId).toArray))) rfl (fun g401 => ⟨⟨rfl, ⟨rfl, ⟨rfl, trivial⟩⟩⟩, ?_⟩)) ?_
                ·
                  refine (AH_ready [10] (by kernel_rfl) (by decide) ?_)
                  refine AHs_cons0 rfl rfl rfl (OpT_storeAll (r := 401) rfl Try.sizeOf29 rfl rfl rfl rfl ((bs_length _).trans (sha_length _)) (bs_one _) ?_) ?_
                  ·
                    refine ⟨⟨rfl, ⟨rfl, ⟨rfl, trivial⟩⟩⟩, ?_⟩
                    refine (AH_done (by kernel_rfl) ?_)
                    refine X_ren 401 181 rfl ?_
                    exact X_cut g401 trivial ⟨rfl, rfl, rfl, rfl, rfl, trivial⟩ ⟨rfl, rfl, rfl, rfl, trivial⟩
                  exact AHs_nil
                exact AHs_nil
              refine AHs_cons rfl rfl rfl (by decide) (OpT_alloc (r := 301) (cs := (bs zeroId)) rfl (zero_run (by kernel_rfl : (Try.prog.info? 29).bind (·.zero) = some (.agg (bs zeroId).toArray))) rfl (fun g301 => ⟨⟨rfl, ⟨rfl, ⟨rfl, trivial⟩⟩⟩, ?_⟩)) ?_
              ·
                refine (AH_ready [8] (by kernel_rfl) (by decide) ?_)
                refine AHs_cons rfl rfl rfl (by decide) (OpT_call 400 [0, 101, 102, 103, 300, 301] [] rfl Try.call14 rfl rfl rfl (by decide) (by decide) (refSum_spec v21 (hdL nm q ++ numB 65533 2 ++ [255] ++ seed) (by simp [hdL_length hn, numB_length, *]) _ (rd_star 4 rfl rowB_rd)) (fun v22 Ps22 hR22 => ?_)) ?_
                ·
                  obtain ⟨rfl, rfl⟩ := hR22
                  refine ⟨⟨rfl, ⟨rfl, ⟨rfl, trivial⟩⟩⟩, ?_⟩
                  refine (AH_ready [10] (by kernel_rfl) (by decide) ?_)
                  refine AHs_cons0 rfl rfl rfl (OpT_storeAll (r := 301) rfl Try.sizeOf29 rfl rfl rfl rfl ((bs_length _).trans (sha_length _)) (bs_one _) ?_) ?_
                  ·
                    refine ⟨⟨rfl, ⟨rfl, ⟨rfl, trivial⟩⟩⟩, ?_⟩
                    refine (AH_done (by kernel_rfl) ?_)
                    refine X_ren 301 181 rfl ?_
                    exact X_cut g301 trivial ⟨rfl, rfl, rfl, rfl, rfl, trivial⟩ ⟨rfl, rfl, rfl, rfl, trivial⟩
                  exact AHs_nil
                exact AHs_nil
              exact AHs_nil
            refine AHs_cons rfl rfl rfl (by decide) (OpT_alloc (r := 301) (cs := (bs zeroId)) rfl (zero_run (by kernel_rfl : (Try.prog.info? 29).bind (·.zero) = some (.agg (bs zeroId).toArray))) rfl (fun g301 => ⟨⟨rfl, ⟨rfl, ⟨rfl, trivial⟩⟩⟩, ?_⟩)) ?_
            ·
              refine (AH_ready [7] (by kernel_rfl) (by decide) ?_)
              refine AHs_cons rfl rfl rfl (by decide) (OpT_append (r := 300) (r2 := 102) rfl Try.underlying30 TI.hi5 TI.hz5 TI.hs5 TI.hby5 TI.hzs5 (by decide) rfl rfl rfl rfl (fun _ h => blk_all h hs) (bs_one _) (by unfold maxLen; simp [hdL_length hn, numB_length, *] <;> omega) (by simp [hdL_length hn, numB_length, *] <;> omega) (fun v21 => ?_)) ?_
              ·
                refine ⟨⟨rfl, ⟨rfl, ⟨rfl, trivial⟩⟩⟩, ?_⟩
                refine AH_turn (P' := rowB 5 v21 (hdL nm q ++ numB 65533 2 ++ [255] ++ seed)) 300 rfl (fun h hp => rowB_mk hp (by simp [hdL_length hn, numB_length, *] <;> omega) (by simp only [bs_append])) ?_
                refine (AH_ready [8] (by kernel_rfl) (by decide) ?_)
                refine AHs_cons rfl rfl rfl (by decide) (OpT_call 400 [0, 101, 102, 103, 300, 301] [] rfl Try.call14 rfl rfl rfl (by decide) (by decide) (refSum_spec v21 (hdL nm q ++ numB 65533 2 ++ [255] ++ seed) (by simp [hdL_length hn, numB_length, *]) _ (rd_star 4 rfl rowB_rd)) (fun v22 Ps22 hR22 => ?_)) ?_
                ·
                  obtain ⟨rfl, rfl⟩ := hR22
                  refine ⟨⟨rfl, ⟨rfl, ⟨rfl, trivial⟩⟩⟩, ?_⟩
                  refine (AH_ready [10] (by kernel_rfl) (by decide) ?_)
                  refine AHs_cons0 rfl rfl rfl (OpT_storeAll (r := 301) rfl Try.sizeOf29 rfl rfl rfl rfl ((bs_length _).trans (sha_length _)) (bs_one _) ?_) ?_
                  ·
                    refine ⟨⟨rfl, ⟨rfl, ⟨rfl, trivial⟩⟩⟩, ?_⟩
                    refine (AH_done (by kernel_rfl) ?_)
                    refine X_ren 301 181 rfl ?_
                    exact X_cut g301 trivial ⟨rfl, rfl, rfl, rfl, rfl, trivial⟩ ⟨rfl, rfl, rfl, rfl, trivial⟩
                  exact AHs_nil
                exact AHs_nil
              exact AHs_nil
            exact AHs_nil
          refine AHs_cons rfl rfl rfl (by decide) (OpT_alloc (r := 301) (cs := (bs zeroId)) rfl (zero_run (by kernel_rfl : (Try.prog.info? 29).bind (·.zero) = some (.agg (bs zeroId).toArray))) rfl (fun g301 => ⟨⟨rfl, ⟨rfl, ⟨rfl, trivial⟩⟩⟩, ?_⟩)) ?_
          ·
            refine (AH_ready [5] (by kernel_rfl) (by decide) ?_)
            refine AHs_cons rfl rfl rfl (by decide) (OpT_append (r := 300) (r2 := 103) rfl Try.underlying30 TI.hi5 TI.hz5 TI.hs5 TI.hby5 TI.hzs5 (by decide) rfl rfl rfl rfl (fun _ h => rowP_rd h) (bs_one _) (by unfold maxLen; simp [hdL_length hn, numB_length, *] <;> omega) (by simp [hdL_length hn, numB_length, *] <;> omega) (fun v19 => ?_)) ?_
            ·
              refine ⟨⟨rfl, ⟨rfl, ⟨rfl, trivial⟩⟩⟩, ?_⟩
              refine AH_turn (P' := rowB 5 v19 (hdL nm q ++ numB 65533 2 ++ [255])) 300 rfl (fun h hp => rowB_mk hp (by simp [hdL_length hn, numB_length, *] <;> omega) (by simp only [bs_append])) ?_
              refine (AH_ready [7] (by kernel_rfl) (by decide) ?_)
              refine AHs_cons rfl rfl rfl (by decide) (OpT_append (r := 300) (r2 := 102) rfl Try.underlying30 TI.hi5 TI.hz5 TI.hs5 TI.hby5 TI.hzs5 (by decide) rfl rfl rfl rfl (fun _ h => blk_all h hs) (bs_one _) (by unfold maxLen; simp [hdL_length hn, numB_length, *] <;> omega) (by simp [hdL_length hn, numB_length, *] <;> omega) (fun v21 => ?_)) ?_
              ·
                refine ⟨⟨rfl, ⟨rfl, ⟨rfl, trivial⟩⟩⟩, ?_⟩
                refine AH_turn (P' := rowB 5 v21 (hdL nm q ++ numB 65533 2 ++ [255] ++ seed)) 300 rfl (fun h hp => rowB_mk hp (by simp [hdL_length hn, numB_length, *] <;> omega) (by simp only [bs_append])) ?_
                refine (AH_ready [8] (by kernel_rfl) (by decide) ?_)
                refine AHs_cons rfl rfl rfl (by decide) (OpT_call 400 [0, 101, 102, 103, 300, 301] [] rfl Try.call14 rfl rfl rfl (by decide) (by decide) (refSum_spec v21 (hdL nm q ++ numB 65533 2 ++ [255] ++ seed) (by simp [hdL_length hn, numB_length, *]) _ (rd_star 4 rfl rowB_rd)) (fun v22 Ps22 hR22 => ?_)) ?_
                ·
                  obtain ⟨rfl, rfl⟩ := hR22
                  refine ⟨⟨rfl, ⟨rfl, ⟨rfl, trivial⟩⟩⟩, ?_⟩
                  refine (AH_ready [10] (by kernel_rfl) (by decide) ?_)
                  refine AHs_cons0 rfl rfl rfl (OpT_storeAll (r := 301) rfl Try.sizeOf29 rfl rfl rfl rfl ((bs_length _).trans (sha_length _)) (bs_one _) ?_) ?_
                  ·
                    refine ⟨⟨rfl, ⟨rfl, ⟨rfl, trivial⟩⟩⟩, ?_⟩
                    refine (AH_done (by kernel_rfl) ?_)
                    refine X_ren 301 181 rfl ?_
                    exact X_cut g301 trivial ⟨rfl, rfl, rfl, rfl, rfl, trivial⟩ ⟨rfl, rfl, rfl, rfl, trivial⟩
                  exact AHs_nil
                exact AHs_nil
              exact AHs_nil
            exact AHs_nil
          exact AHs_nil
        refine AHs_cons rfl rfl rfl (by decide) (OpT_alloc (r := 201) (cs := (bs zeroId)) rfl (zero_run (by kernel_rfl : (Try.prog.info? 29).bind (·.zero) = some (.agg (bs zeroId).toArray))) rfl (fun g201 => ⟨⟨rfl, ⟨rfl, ⟨rfl, trivial⟩⟩⟩, ?_⟩)) ?_
        ·
          refine (AH_ready [3] (by kernel_rfl) (by decide) ?_)
          refine AHs_cons rfl rfl rfl (by decide) (OpT_call 300 [0, 101, 102, 103, 201] [200] rfl Try.call55 rfl rfl rfl (by decide) (by decide) (two5_spec _ rfl _ (hdL nm q) 65533 (by rw [hdL_length hn]; omega) _) (fun v17 Ps17 hR17 => ?_)) ?_
          ·
            subst hR17
            refine ⟨⟨rfl, ⟨rfl, ⟨rfl, trivial⟩⟩⟩, ?_⟩
            refine (AH_ready [5] (by kernel_rfl) (by decide) ?_)
            refine AHs_cons rfl rfl rfl (by decide) (OpT_append (r := 300) (r2 := 103) rfl Try.underlying30 TI.hi5 TI.hz5 TI.hs5 TI.hby5 TI.hzs5 (by decide) rfl rfl rfl rfl (fun _ h => rowP_rd h) (bs_one _) (by unfold maxLen; simp [hdL_length hn, numB_length, *] <;> omega) (by simp [hdL_length hn, numB_length, *] <;> omega) (fun v19 => ?_)) ?_
            ·
              refine ⟨⟨rfl, ⟨rfl, ⟨rfl, trivial⟩⟩⟩, ?_⟩
              refine AH_turn (P' := rowB 5 v19 (hdL nm q ++ numB 65533 2 ++ [255])) 300 rfl (fun h hp => rowB_mk hp (by simp [hdL_length hn, numB_length, *] <;> omega) (by simp only [bs_append])) ?_
              refine (AH_ready [7] (by kernel_rfl) (by decide) ?_)
              refine AHs_cons rfl rfl rfl (by decide) (OpT_append (r := 300) (r2 := 102) rfl Try.underlying30 TI.hi5 TI.hz5 TI.hs5 TI.hby5 TI.hzs5 (by decide) rfl rfl rfl rfl (fun _ h => blk_all h hs) (bs_one _) (by unfold maxLen; simp [hdL_length hn, numB_length, *] <;> omega) (by simp [hdL_length hn, numB_length, *] <;> omega) (fun v21 => ?_)) ?_
              ·
                refine ⟨⟨rfl, ⟨rfl, ⟨rfl, trivial⟩⟩⟩, ?_⟩
                refine AH_turn (P' := rowB 5 v21 (hdL nm q ++ numB 65533 2 ++ [255] ++ seed)) 300 rfl (fun h hp => rowB_mk hp (by simp [hdL_length hn, numB_length, *] <;> omega) (by simp only [bs_append])) ?_
                refine (AH_ready [8] (by kernel_rfl) (by decide) ?_)
                refine AHs_cons rfl rfl rfl (by decide) (OpT_call 400 [0, 101, 102, 103, 201, 300] [] rfl Try.call14 rfl rfl rfl (by decide) (by decide) (refSum_spec v21 (hdL nm q ++ numB 65533 2 ++ [255] ++ seed) (by simp [hdL_length hn, numB_length, *]) _ (rd_star 5 rfl rowB_rd)) (fun v22 Ps22 hR22 => ?_)) ?_
                ·
                  obtain ⟨rfl, rfl⟩ := hR22
                  refine ⟨⟨rfl, ⟨rfl, ⟨rfl, trivial⟩⟩⟩, ?_⟩
                  refine (AH_ready [10] (by kernel_rfl) (by decide) ?_)
                  refine AHs_cons0 rfl rfl rfl (OpT_storeAll (r := 201) rfl Try.sizeOf29 rfl rfl rfl rfl ((bs_length _).trans (sha_length _)) (bs_one _) ?_) ?_
                  ·
                    refine ⟨⟨rfl, ⟨rfl, ⟨rfl, trivial⟩⟩⟩, ?_⟩
                    refine (AH_done (by kernel_rfl) ?_)
                    refine X_ren 201 181 rfl ?_
                    exact X_cut g201 trivial ⟨rfl, rfl, rfl, rfl, rfl, trivial⟩ ⟨rfl, rfl, rfl, rfl, trivial⟩
                  exact AHs_nil
                exact AHs_nil
              exact AHs_nil
            exact AHs_nil
          exact AHs_nil
        exact AHs_nil
      refine AHs_cons rfl rfl rfl (by decide) (OpT_alloc (r := 104) (cs := (bs zeroId)) rfl (zero_run (by kernel_rfl : (Try.prog.info? 29).bind (·.zero) = some (.agg (bs zeroId).toArray))) rfl (fun g104 => ⟨⟨rfl, ⟨rfl, ⟨rfl, trivial⟩⟩⟩, ?_⟩)) ?_
      ·
        refine (AH_ready [2] (by kernel_rfl) (by decide) ?_)
        refine AHs_cons rfl rfl rfl (by decide) (OpT_call 200 [0, 101, 102, 103, 104] [] rfl Try.call56 rfl rfl rfl (by decide) (by decide) (head5_spec nm hn q _) (fun v16 Ps16 hR16 => ?_)) ?_
        ·
          subst hR16
          refine ⟨⟨rfl, ⟨rfl, ⟨rfl, trivial⟩⟩⟩, ?_⟩
          refine (AH_ready [3] (by kernel_rfl) (by decide) ?_)
          refine AHs_cons rfl rfl rfl (by decide) (OpT_call 300 [0, 101, 102, 103, 104] [200] rfl Try.call55 rfl rfl rfl (by decide) (by decide) (two5_spec _ rfl _ (hdL nm q) 65533 (by rw [hdL_length hn]; omega) _) (fun v17 Ps17 hR17 => ?_)) ?_
          ·
            subst hR17
            refine ⟨⟨rfl, ⟨rfl, ⟨rfl, trivial⟩⟩⟩, ?_⟩
            refine (AH_ready [5] (by kernel_rfl) (by decide) ?_)
            refine AHs_cons rfl rfl rfl (by decide) (OpT_append (r := 300) (r2 := 103) rfl Try.underlying30 TI.hi5 TI.hz5 TI.hs5 TI.hby5 TI.hzs5 (by decide) rfl rfl rfl rfl (fun _ h => rowP_rd h) (bs_one _) (by unfold maxLen; simp [hdL_length hn, numB_length, *] <;> omega) (by simp [hdL_length hn, numB_length, *] <;> omega) (fun v19 => ?_)) ?_
            ·
              refine ⟨⟨rfl, ⟨rfl, ⟨rfl, trivial⟩⟩⟩, ?_⟩
              refine AH_turn (P' := rowB 5 v19 (hdL nm q ++ numB 65533 2 ++ [255])) 300 rfl (fun h hp => rowB_mk hp (by simp [hdL_length hn, numB_length, *] <;> omega) (by simp only [bs_append])) ?_
              refine (AH_ready [7] (by kernel_rfl) (by decide) ?_)
              refine AHs_cons rfl rfl rfl (by decide) (OpT_append (r := 300) (r2 := 102) rfl Try.underlying30 TI.hi5 TI.hz5 TI.hs5 TI.hby5 TI.hzs5 (by decide) rfl rfl rfl rfl (fun _ h => blk_all h hs) (bs_one _) (by unfold maxLen; simp [hdL_length hn, numB_length, *] <;> omega) (by simp [hdL_length hn, numB_length, *] <;> omega) (fun v21 => ?_)) ?_
              ·
                refine ⟨⟨rfl, ⟨rfl, ⟨rfl, trivial⟩⟩⟩, ?_⟩
                refine AH_turn (P' := rowB 5 v21 (hdL nm q ++ numB 65533 2 ++ [255] ++ seed)) 300 rfl (fun h hp => rowB_mk hp (by simp [hdL_length hn, numB_length, *] <;> omega) (by simp only [bs_append])) ?_
                refine (AH_ready [8] (by kernel_rfl) (by decide) ?_)
                refine AHs_cons rfl rfl rfl (by decide) (OpT_call 400 [0, 101, 102, 103, 104, 300] [] rfl Try.call14 rfl rfl rfl (by decide) (by decide) (refSum_spec v21 (hdL nm q ++ numB 65533 2 ++ [255] ++ seed) (by simp [hdL_length hn, numB_length, *]) _ (rd_star 5 rfl rowB_rd)) (fun v22 Ps22 hR22 => ?_)) ?_
                ·
                  obtain ⟨rfl, rfl⟩ := hR22
                  refine ⟨⟨rfl, ⟨rfl, ⟨rfl, trivial⟩⟩⟩, ?_⟩
                  refine (AH_ready [10] (by kernel_rfl) (by decide) ?_)
                  refine AHs_cons0 rfl rfl rfl (OpT_storeAll (r := 104) rfl Try.sizeOf29 rfl rfl rfl rfl ((bs_length _).trans (sha_length _)) (bs_one _) ?_) ?_
                  ·
                    refine ⟨⟨rfl, ⟨rfl, ⟨rfl, trivial⟩⟩⟩, ?_⟩
                    refine (AH_done (by kernel_rfl) ?_)
                    refine X_ren 104 181 rfl ?_
                    exact X_cut g104 trivial ⟨rfl, rfl, rfl, rfl, rfl, trivial⟩ ⟨rfl, rfl, rfl, rfl, trivial⟩
                  exact AHs_nil
                exact AHs_nil
              exact AHs_nil
            exact AHs_nil
          exact AHs_nil
        exact AHs_nil
      exact AHs_nil
    refine AHs_cons rfl rfl rfl (by decide) (OpT_alloc (r := 103) (cs := (bs zeroId)) rfl (zero_run (by kernel_rfl : (Try.prog.info? 29).bind (·.zero) = some (.agg (bs zeroId).toArray))) rfl (fun g103 => ⟨⟨rfl, ⟨rfl, ⟨rfl, trivial⟩⟩⟩, ?_⟩)) ?_
    ·
      refine (AH_ready [2, 4] (by kernel_rfl) (by decide) ?_)
      refine AHs_cons rfl rfl rfl (by decide) (OpT_call 200 [0, 101, 102, 103] [] rfl Try.call56 rfl rfl rfl (by decide) (by decide) (head5_spec nm hn q _) (fun v16 Ps16 hR16 => ?_)) ?_
      ·
        subst hR16
        refine ⟨⟨rfl, ⟨rfl, ⟨rfl, trivial⟩⟩⟩, ?_⟩
        refine (AH_ready [3, 4] (by kernel_rfl) (by decide) ?_)
        refine AHs_cons rfl rfl rfl (by decide) (OpT_call 300 [0, 101, 102, 103] [200] rfl Try.call55 rfl rfl rfl (by decide) (by decide) (two5_spec _ rfl _ (hdL nm q) 65533 (by rw [hdL_length hn]; omega) _) (fun v17 Ps17 hR17 => ?_)) ?_
        ·
          subst hR17
          refine ⟨⟨rfl, ⟨rfl, ⟨rfl, trivial⟩⟩⟩, ?_⟩
          refine (AH_ready [4] (by kernel_rfl) (by decide) ?_)
          refine AHs_cons rfl rfl rfl (by decide) (OpT_buildOnes (r := 301) (bs [255]) rfl rfl Try.runUnderlying30 Try.sizeOf5 Try.zeroValue5 rfl rfl (by decide) rfl (bs_cells _) (fun v18 => ⟨⟨rfl, ⟨rfl, ⟨rfl, trivial⟩⟩⟩, ?_⟩)) ?_
          ·
            refine (AH_ready [5] (by kernel_rfl) (by decide) ?_)
            refine AHs_cons rfl rfl rfl (by decide) (OpT_append (r := 300) (r2 := 301) rfl Try.underlying30 TI.hi5 TI.hz5 TI.hs5 TI.hby5 TI.hzs5 (by decide) rfl rfl rfl rfl (fun _ h => rowP_rd h) (bs_one _) (by unfold maxLen; simp [hdL_length hn, numB_length, *] <;> omega) (by simp [hdL_length hn, numB_length, *] <;> omega) (fun v19 => ?_)) ?_
            ·
              refine ⟨⟨rfl, ⟨rfl, ⟨rfl, trivial⟩⟩⟩, ?_⟩
              refine AH_turn (P' := rowB 5 v19 (hdL nm q ++ numB 65533 2 ++ [255])) 300 rfl (fun h hp => rowB_mk hp (by simp [hdL_length hn, numB_length, *] <;> omega) (by simp only [bs_append])) ?_
              refine (AH_ready [7] (by kernel_rfl) (by decide) ?_)
              refine AHs_cons rfl rfl rfl (by decide) (OpT_append (r := 300) (r2 := 102) rfl Try.underlying30 TI.hi5 TI.hz5 TI.hs5 TI.hby5 TI.hzs5 (by decide) rfl rfl rfl rfl (fun _ h => blk_all h hs) (bs_one _) (by unfold maxLen; simp [hdL_length hn, numB_length, *] <;> omega) (by simp [hdL_length hn, numB_length, *] <;> omega) (fun v21 => ?_)) ?_
              ·
                refine ⟨⟨rfl, ⟨rfl, ⟨rfl, trivial⟩⟩⟩, ?_⟩
                refine AH_turn (P' := rowB 5 v21 (hdL nm q ++ numB 65533 2 ++ [255] ++ seed)) 300 rfl (fun h hp => rowB_mk hp (by simp [hdL_length hn, numB_length, *] <;> omega) (by simp only [bs_append])) ?_
                refine (AH_ready [8] (by kernel_rfl) (by decide) ?_)
                refine AHs_cons rfl rfl rfl (by decide) (OpT_call 400 [0, 101, 102, 103, 300, 301] [] rfl Try.call14 rfl rfl rfl (by decide) (by decide) (refSum_spec v21 (hdL nm q ++ numB 65533 2 ++ [255] ++ seed) (by simp [hdL_length hn, numB_length, *]) _ (rd_star 4 rfl rowB_rd)) (fun v22 Ps22 hR22 => ?_)) ?_
                ·
                  obtain ⟨rfl, rfl⟩ := hR22
                  refine ⟨⟨rfl, ⟨rfl, ⟨rfl, trivial⟩⟩⟩, ?_⟩
                  refine (AH_ready [10] (by kernel_rfl) (by decide) ?_)
                  refine AHs_cons0 rfl rfl rfl (OpT_storeAll (r := 103) rfl Try.sizeOf29 rfl rfl rfl rfl ((bs_length _).trans (sha_length _)) (bs_one _) ?_) ?_
                  ·
                    refine ⟨⟨rfl, ⟨rfl, ⟨rfl, trivial⟩⟩⟩, ?_⟩
                    refine (AH_done (by kernel_rfl) ?_)
                    refine X_ren 103 181 rfl ?_
                    exact X_cut g103 trivial ⟨rfl, rfl, rfl, rfl, rfl, trivial⟩ ⟨rfl, rfl, rfl, rfl, trivial⟩
                  exact AHs_nil
                exact AHs_nil
              exact AHs_nil
            exact AHs_nil
          exact AHs_nil
        refine AHs_cons rfl rfl rfl (by decide) (OpT_buildOnes (r := 201) (bs [255]) rfl rfl Try.runUnderlying30 Try.sizeOf5 Try.zeroValue5 rfl rfl (by decide) rfl (bs_cells _) (fun v18 => ⟨⟨rfl, ⟨rfl, ⟨rfl, trivial⟩⟩⟩, ?_⟩)) ?_
        ·
          refine (AH_ready [3] (by kernel_rfl) (by decide) ?_)
          refine AHs_cons rfl rfl rfl (by decide) (OpT_call 300 [0, 101, 102, 103, 201] [200] rfl Try.call55 rfl rfl rfl (by decide) (by decide) (two5_spec _ rfl _ (hdL nm q) 65533 (by rw [hdL_length hn]; omega) _) (fun v17 Ps17 hR17 => ?_)) ?_
          ·
            subst hR17
            refine ⟨⟨rfl, ⟨rfl, ⟨rfl, trivial⟩⟩⟩, ?_⟩
            refine (AH_ready [5] (by kernel_rfl) (by decide) ?_)
            refine AHs_cons rfl rfl rfl (by decide) (OpT_append (r := 300) (r2 := 201) rfl Try.underlying30 TI.hi5 TI.hz5 TI.hs5 TI.hby5 TI.hzs5 (by decide) rfl rfl rfl rfl (fun _ h => rowP_rd h) (bs_one _) (by unfold maxLen; simp [hdL_length hn, numB_length, *] <;> omega) (by simp [hdL_length hn, numB_length, *] <;> omega) (fun v19 => ?_)) ?_
            ·
              refine ⟨⟨rfl, ⟨rfl, ⟨rfl, trivial⟩⟩⟩, ?_⟩
              refine AH_turn (P' := rowB 5 v19 (hdL nm q ++ numB 65533 2 ++ [255])) 300 rfl (fun h hp => rowB_mk hp (by simp [hdL_length hn, numB_length, *] <;> omega) (by simp only [bs_append])) ?_
              refine (AH_ready [7] (by kernel_rfl) (by decide) ?_)
              refine AHs_cons rfl rfl rfl (by decide) (OpT_append (r := 300) (r2 := 102) rfl Try.underlying30 TI.hi5 TI.hz5 TI.hs5 TI.hby5 TI.hzs5 (by decide) rfl rfl rfl rfl (fun _ h => blk_all h hs) (bs_one _) (by unfold maxLen; simp [hdL_length hn, numB_length, *] <;> omega) (by simp [hdL_length hn, numB_length, *] <;> omega) (fun v21 => ?_)) ?_
              ·
                refine ⟨⟨rfl, ⟨rfl, ⟨rfl, trivial⟩⟩⟩, ?_⟩
                refine AH_turn (P' := rowB 5 v21 (hdL nm q ++ numB 65533 2 ++ [255] ++ seed)) 300 rfl (fun h hp => rowB_mk hp (by simp [hdL_length hn, numB_length, *] <;> omega) (by simp only [bs_append])) ?_
                refine (AH_ready [8] (by kernel_rfl) (by decide) ?_)
                refine AHs_cons rfl rfl rfl (by decide) (OpT_call 400 [0, 101, 102, 103, 201, 300] [] rfl Try.call14 rfl rfl rfl (by decide) (by decide) (refSum_spec v21 (hdL nm q ++ numB 65533 2 ++ [255] ++ seed) (by simp [hdL_length hn, numB_length, *]) _ (rd_star 5 rfl rowB_rd)) (fun v22 Ps22 hR22 => ?_)) ?_
                ·
                  obtain ⟨rfl, rfl⟩ := hR22
                  refine ⟨⟨rfl, ⟨rfl, ⟨rfl, trivial⟩⟩⟩, ?_⟩
                  refine (AH_ready [10] (by kernel_rfl) (by decide) ?_)
                  refine AHs_cons0 rfl rfl rfl (OpT_storeAll (r := 103) rfl Try.sizeOf29 rfl rfl rfl rfl ((bs_length _).trans (sha_length _)) (bs_one _) ?_) ?_
                  ·
                    refine ⟨⟨rfl, ⟨rfl, ⟨rfl, trivial⟩⟩⟩, ?_⟩
                    refine (AH_done (by kernel_rfl) ?_)
                    refine X_ren 103 181 rfl ?_
                    exact X_cut g103 trivial ⟨rfl, rfl, rfl, rfl, rfl, trivial⟩ ⟨rfl, rfl, rfl, rfl, trivial⟩
                  exact AHs_nil
                exact AHs_nil
              exact AHs_nil
            exact AHs_nil
          exact AHs_nil
        exact AHs_nil
      refine AHs_cons rfl rfl rfl (by decide) (OpT_buildOnes (r := 104) (bs [255]) rfl rfl Try.runUnderlying30 Try.sizeOf5 Try.zeroValue5 rfl rfl (by decide) rfl (bs_cells _) (fun v18 => ⟨⟨rfl, ⟨rfl, ⟨rfl, trivial⟩⟩⟩, ?_⟩)) ?_
      ·
        refine (AH_ready [2] (by kernel_rfl) (by decide) ?_)
        refine AHs_cons rfl rfl rfl (by decide) (OpT_call 200 [0, 101, 102, 103, 104] [] rfl Try.call56 rfl rfl rfl (by decide) (by decide) (head5_spec nm hn q _) (fun v16 Ps16 hR16 => ?_)) ?_
        ·
          subst hR16
          refine ⟨⟨rfl, ⟨rfl, ⟨rfl, trivial⟩⟩⟩, ?_⟩
          refine (AH_ready [3] (by kernel_rfl) (by decide) ?_)
          refine AHs_cons rfl rfl rfl (by decide) (OpT_call 300 [0, 101, 102, 103, 104] [200] rfl Try.call55 rfl rfl rfl (by decide) (by decide) (two5_spec _ rfl _ (hdL nm q) 65533 (by rw [hdL_length hn]; omega) _) (fun v17 Ps17 hR17 => ?_)) ?_
          ·
            subst hR17
            refine ⟨⟨rfl, ⟨rfl, ⟨rfl, trivial⟩⟩⟩, ?_⟩
            refine (AH_ready [5] (by kernel_rfl) (by decide) ?_)
            refine AHs_cons rfl rfl rfl (by decide) (OpT_append (r := 300) (r2 := 104) rfl Try.underlying30 TI.hi5 TI.hz5 TI.hs5 TI.hby5 TI.hzs5 (by decide) rfl rfl rfl rfl (fun _ h => rowP_rd h) (bs_one _) (by unfold maxLen; simp [hdL_length hn, numB_length, *] <;> omega) (by simp [hdL_length hn, numB_length, *] <;> omega) (fun v19 => ?_)) ?_
            ·
              refine ⟨⟨rfl, ⟨rfl, ⟨rfl, trivial⟩⟩⟩, ?_⟩
              refine AH_turn (P' := rowB 5 v19 (hdL nm q ++ numB 65533 2 ++ [255])) 300 rfl (fun h hp => rowB_mk hp (by simp [hdL_length hn, numB_length, *] <;> omega) (by simp only [bs_append])) ?_
              refine (AH_ready [7] (by kernel_rfl) (by decide) ?_)
              refine AHs_cons rfl rfl rfl (by decide) (OpT_append (r := 300) (r2 := 102) rfl Try.underlying30 TI.hi5 TI.hz5 TI.hs5 TI.hby5 TI.hzs5 (by decide) rfl rfl rfl rfl (fun _ h => blk_all h hs) (bs_one _) (by unfold maxLen; simp [hdL_length hn, numB_length, *] <;> omega) (by simp [hdL_length hn, numB_length, *] <;> omega) (fun v21 => ?_)) ?_
              ·
                refine ⟨⟨rfl, ⟨rfl, ⟨rfl, trivial⟩⟩⟩, ?_⟩
                refine AH_turn (P' := rowB 5 v21 (hdL nm q ++ numB 65533 2 ++ [255] ++ seed)) 300 rfl (fun h hp => rowB_mk hp (by simp [hdL_length hn, numB_length, *] <;> omega) (by simp only [bs_append])) ?_
                refine (AH_ready [8] (by kernel_rfl) (by decide) ?_)
                refine AHs_cons rfl rfl rfl (by decide) (OpT_call 400 [0, 101, 102, 103, 104, 300] [] rfl Try.call14 rfl rfl rfl (by decide) (by decide) (refSum_spec v21 (hdL nm q ++ numB 65533 2 ++ [255] ++ seed) (by simp [hdL_length hn, numB_length, *]) _ (rd_star 5 rfl rowB_rd)) (fun v22 Ps22 hR22 => ?_)) ?_
                ·
                  obtain ⟨rfl, rfl⟩ := hR22
                  refine ⟨⟨rfl, ⟨rfl, ⟨rfl, trivial⟩⟩⟩, ?_⟩
                  refine (AH_ready [10] (by kernel_rfl) (by decide) ?_)
                  refine AHs_cons0 rfl rfl rfl (OpT_storeAll (r := 103) rfl Try.sizeOf29 rfl rfl rfl rfl ((bs_length _).trans (sha_length _)) (bs_one _) ?_) ?_
                  ·
                    refine ⟨⟨rfl, ⟨rfl, ⟨rfl, trivial⟩⟩⟩, ?_⟩
                    refine (AH_done (by kernel_rfl) ?_)
                    refine X_ren 103 181 rfl ?_
                    exact X_cut g103 trivial ⟨rfl, rfl, rfl, rfl, rfl, trivial⟩ ⟨rfl, rfl, rfl, rfl, trivial⟩
                  exact AHs_nil
                exact AHs_nil
              exact AHs_nil
            exact AHs_nil
          exact AHs_nil
        exact AHs_nil
      exact AHs_nil
    exact AHs_nil
  ·
    refine W_cut (α := Nat) (fun z10 => [(1, .int .i64 q), (3, mv), (4, .pointer (some ⟨g101, 0, none⟩)), (6, .pointer (some ⟨g102, 0, none⟩)), (9, .pointer (some ⟨z9, 0, none⟩)), (10, .pointer (some ⟨z10, 0, none⟩))]) (fun z10 => [(0, F), (101, blk g101 52 (bs nm)), (102, blk g102 29 (bs seed)), (181, blk z9 29 (bs (rndO nm q seed))), (182, blk z10 99 (nsC (digL (digB2 nm q (rndO nm q seed) msg))))]) (fun z10 => True) ?_ (fun z10 _ => ?_)
    ·
      refine W.pre (K' := [(1, _), (3, _), (4, _), (6, _), (9, _)]) (L' := [(0, _), (101, _), (102, _), (181, _)]) ?_ ⟨rfl, ⟨rfl, ⟨rfl, ⟨rfl, ⟨rfl, trivial⟩⟩⟩⟩⟩ ⟨rfl, ⟨rfl, ⟨rfl, ⟨rfl, trivial⟩⟩⟩⟩
      refine W_draw (N := 7) (by kernel_rfl) rfl [(0, _), (101, _), (102, _), (181, _)] ⟨rfl, ⟨rfl, ⟨rfl, ⟨rfl, trivial⟩⟩⟩⟩ ?_
      refine (AH_take 0 rfl (by kernel_rfl) (by kernel_rfl) (by kernel_rfl) rfl rfl (by decide) (Pu_loadBN (r := 101) rfl Try.isAgg52 Try.sizeOf52 rfl rfl ((bs_length _).trans hn) (load_all ((bs_length _).trans hn))) (AH_take 1 rfl (by kernel_rfl) (by kernel_rfl) (by kernel_rfl) rfl rfl (by decide) (Pu_move rfl rfl) (AH_take 2 rfl (by kernel_rfl) (by kernel_rfl) (by kernel_rfl) rfl rfl (by decide) (Pu_sliceArr rfl Try.runUnderlying29 Try.sizeOf5 rfl) (AH_take 3 rfl (by kernel_rfl) (by kernel_rfl) (by kernel_rfl) rfl rfl (by decide) (Pu_move rfl rfl) (AH_ready [4, 5] (by kernel_rfl) (by decide) ?_)))))
      refine AHs_cons rfl rfl rfl (by decide) (OpT_call 200 [0, 101, 102, 181] [] rfl Try.call57 rfl rfl rfl (by decide) (by decide) (digits5_spec nm hn q _ _ (rndO nm q seed) msg (by rw [show (rndO nm q seed).length = 32 from (hashC_length nm q 65533 255 seed)]; omega) (by omega) _ (fun h hp => rdP_cast (rd_star 3 rfl (fun _ h => blk_all h (hashC_length nm q 65533 255 seed)) h hp) rfl (show 32 = (rndO nm q seed).length from (hashC_length nm q 65533 255 seed).symm)) (rd_star 0 rfl hm)) (fun v27 Ps27 hR27 => ?_)) ?_
      ·
        obtain ⟨rfl, rfl⟩ := hR27
        refine ⟨⟨rfl, ⟨rfl, ⟨rfl, ⟨rfl, trivial⟩⟩⟩⟩, ?_⟩
        refine (AH_ready [5] (by kernel_rfl) (by decide) ?_)
        refine AHs_cons rfl rfl rfl (by decide) (OpT_alloc (r := 201) (cs := (nsC (List.replicate 133 0))) rfl (zero_run (by kernel_rfl : (Try.prog.info? 99).bind (·.zero) = some (nsV (List.replicate 133 0)))) rfl (fun g201 => ⟨⟨rfl, ⟨rfl, ⟨rfl, ⟨rfl, trivial⟩⟩⟩⟩, ?_⟩)) ?_
        ·
          refine (AH_ready [6] (by kernel_rfl) (by decide) ?_)
          refine AHs_cons0 rfl rfl rfl (OpT_storeAll (r := 201) rfl Try.sizeOf99 rfl rfl rfl rfl ((nsC_length _).trans (digL_length _)) (nsC_one _) ?_) ?_
          ·
            refine ⟨⟨rfl, ⟨rfl, ⟨rfl, ⟨rfl, trivial⟩⟩⟩⟩, ?_⟩
            refine (AH_done (by kernel_rfl) ?_)
            refine X_ren 201 182 rfl ?_
            exact X_cut g201 trivial ⟨rfl, rfl, rfl, rfl, rfl, rfl, trivial⟩ ⟨rfl, rfl, rfl, rfl, rfl, trivial⟩
          exact AHs_nil
        exact AHs_nil
      refine AHs_cons rfl rfl rfl (by decide) (OpT_alloc (r := 103) (cs := (nsC (List.replicate 133 0))) rfl (zero_run (by kernel_rfl : (Try.prog.info? 99).bind (·.zero) = some (nsV (List.replicate 133 0)))) rfl (fun g103 => ⟨⟨rfl, ⟨rfl, ⟨rfl, ⟨rfl, trivial⟩⟩⟩⟩, ?_⟩)) ?_
      ·
        refine (AH_ready [4] (by kernel_rfl) (by decide) ?_)
        refine AHs_cons rfl rfl rfl (by decide) (OpT_call 200 [0, 101, 102, 103, 181] [] rfl Try.call57 rfl rfl rfl (by decide) (by decide) (digits5_spec nm hn q _ _ (rndO nm q seed) msg (by rw [show (rndO nm q seed).length = 32 from (hashC_length nm q 65533 255 seed)]; omega) (by omega) _ (fun h hp => rdP_cast (rd_star 4 rfl (fun _ h => blk_all h (hashC_length nm q 65533 255 seed)) h hp) rfl (show 32 = (rndO nm q seed).length from (hashC_length nm q 65533 255 seed).symm)) (rd_star 0 rfl hm)) (fun v27 Ps27 hR27 => ?_)) ?_
        ·
          obtain ⟨rfl, rfl⟩ := hR27
          refine ⟨⟨rfl, ⟨rfl, ⟨rfl, ⟨rfl, trivial⟩⟩⟩⟩, ?_⟩
          refine (AH_ready [6] (by kernel_rfl) (by decide) ?_)
          refine AHs_cons0 rfl rfl rfl (OpT_storeAll (r := 103) rfl Try.sizeOf99 rfl rfl rfl rfl ((nsC_length _).trans (digL_length _)) (nsC_one _) ?_) ?_
          ·
            refine ⟨⟨rfl, ⟨rfl, ⟨rfl, ⟨rfl, trivial⟩⟩⟩⟩, ?_⟩
            refine (AH_done (by kernel_rfl) ?_)
            refine X_ren 103 182 rfl ?_
            exact X_cut g103 trivial ⟨rfl, rfl, rfl, rfl, rfl, rfl, trivial⟩ ⟨rfl, rfl, rfl, rfl, rfl, trivial⟩
          exact AHs_nil
        exact AHs_nil
      exact AHs_nil
    ·
      refine W_cut (α := Value) (fun z11 => [(1, .int .i64 q), (3, mv), (4, .pointer (some ⟨g101, 0, none⟩)), (6, .pointer (some ⟨g102, 0, none⟩)), (9, .pointer (some ⟨z9, 0, none⟩)), (10, .pointer (some ⟨z10, 0, none⟩)), (11, z11)]) (fun z11 => [(0, F), (101, blk g101 52 (bs nm)), (102, blk g102 29 (bs seed)), (181, blk z9 29 (bs (rndO nm q seed))), (182, blk z10 99 (nsC (digL (digB2 nm q (rndO nm q seed) msg)))), (183, rowB 5 z11 ([0, 0, 0, 2] ++ (rndO nm q seed)))]) (fun z11 => True) ?_ (fun z11 _ => ?_)
      ·
        refine W.pre (K' := [(1, _), (3, _), (4, _), (6, _), (9, _), (10, _)]) (L' := [(0, _), (101, _), (102, _), (181, _), (182, _)]) ?_ ⟨rfl, ⟨rfl, ⟨rfl, ⟨rfl, ⟨rfl, ⟨rfl, trivial⟩⟩⟩⟩⟩⟩ ⟨rfl, ⟨rfl, ⟨rfl, ⟨rfl, ⟨rfl, trivial⟩⟩⟩⟩⟩
        refine W_nilRow 185 5 1 ?_
        refine W_draw (N := 4) (by kernel_rfl) rfl [(0, _), (101, _), (102, _), (181, _), (182, _)] ⟨rfl, ⟨rfl, ⟨rfl, ⟨rfl, ⟨rfl, trivial⟩⟩⟩⟩⟩ ?_
        refine (AH_take 1 rfl (by kernel_rfl) (by kernel_rfl) (by kernel_rfl) rfl rfl (by decide) (Pu_sliceArr rfl Try.runUnderlying29 Try.sizeOf5 rfl) (AH_ready [0] (by kernel_rfl) (by decide) ?_))
        refine AHs_cons rfl rfl rfl (by decide) (OpT_call 200 [0, 101, 102, 181, 182] [185] rfl Try.call58 rfl rfl rfl (by decide) (by decide) (four5_spec _ rfl _ [] 2 (by simp) _) (fun v28 Ps28 hR28 => ?_)) ?_
        ·
          subst hR28
          refine ⟨⟨rfl, ⟨rfl, ⟨rfl, ⟨rfl, ⟨rfl, trivial⟩⟩⟩⟩⟩, ?_⟩
          refine (AH_ready [2] (by kernel_rfl) (by decide) ?_)
          refine AHs_cons rfl rfl rfl (by decide) (OpT_append (r := 200) (r2 := 181) rfl Try.underlying30 TI.hi5 TI.hz5 TI.hs5 TI.hby5 TI.hzs5 (by decide) rfl rfl rfl rfl (fun _ h => blk_all h (hashC_length nm q 65533 255 seed)) (bs_one _) (by unfold maxLen; simp [numB_length] <;> omega) (by simp [numB_length] <;> omega) (fun v30 => ?_)) ?_
          ·
            refine ⟨⟨rfl, ⟨rfl, ⟨rfl, ⟨rfl, ⟨rfl, trivial⟩⟩⟩⟩⟩, ?_⟩
            refine AH_turn (P' := rowB 5 v30 ([0, 0, 0, 2] ++ (rndO nm q seed))) 200 rfl (fun h hp => rowB_mk hp (by simp [numB_length, rndO, hashC_length]) (by rw [bs_append]; rfl)) ?_
            refine (AH_take 3 rfl (by kernel_rfl) (by kernel_rfl) (by kernel_rfl) rfl rfl (by decide) (Pu_assign rfl rfl) (AH_done (by kernel_rfl) ?_))
            refine X_ren 200 183 rfl ?_
            exact X_cut v30 trivial ⟨rfl, rfl, rfl, rfl, rfl, rfl, rfl, trivial⟩ ⟨rfl, rfl, rfl, rfl, rfl, rfl, trivial⟩
          exact AHs_nil
        exact AHs_nil
      ·
        refine W_seq ?_
        refine W_seq ?_
        refine W.pre (K' := [(1, _), (3, _), (4, _), (6, _), (9, _), (10, _), (11, _)]) (L' := [(0, _), (101, _), (102, _), (181, _), (182, _), (183, _)]) ?_ ⟨rfl, ⟨rfl, ⟨rfl, ⟨rfl, ⟨rfl, ⟨rfl, ⟨rfl, trivial⟩⟩⟩⟩⟩⟩⟩ ⟨rfl, ⟨rfl, ⟨rfl, ⟨rfl, ⟨rfl, ⟨rfl, trivial⟩⟩⟩⟩⟩⟩
        refine W_regL (WL_pure rfl rfl (by decide) (Pu_assign rfl rfl) (WL_nil (X_then ?_)))
        refine W_block ?_
        refine W_loop (α := Value × Nat) (fun y => [(1, .int .i64 q), (4, .pointer (some ⟨g101, 0, none⟩)), (6, .pointer (some ⟨g102, 0, none⟩)), (10, .pointer (some ⟨z10, 0, none⟩)), (11, y.1), (12, .int .i64 (y.2 : Int))]) (fun y => [(0, F), (101, blk g101 52 (bs nm)), (102, blk g102 29 (bs seed)), (182, blk z10 99 (nsC (digL (digB2 nm q (rndO nm q seed) msg)))), (183, rowB 5 y.1 ([0, 0, 0, 2] ++ (rndO nm q seed) ++ rowsC (sgnY nm q seed (rndO nm q seed) msg) y.2))]) (fun y => y.2 ≤ 133) (fun y => 133 - y.2) ((z11, 0)) (by dsimp only; omega) ⟨rfl, ⟨rfl, ⟨rfl, ⟨rfl, ⟨rfl, ⟨rfl, trivial⟩⟩⟩⟩⟩⟩ ⟨rfl, rfl, rfl, rfl, look_eq rfl (by rw [rowsC, List.append_nil]), trivial⟩ (fun y hy => ?_)
        have hyl : (rowsC (sgnY nm q seed (rndO nm q seed) msg) y.2).length = 32 * y.2 := rowsC_length fun i _ => sgnY_length _ _ _ _ _ i
        have hcl : (rndO nm q seed).length = 32 := (hashC_length nm q 65533 255 seed)
        refine W_seq ?_
        refine W_seq ?_
        refine W.pre (K' := [(1, _), (4, _), (6, _), (10, _), (11, _), (12, _)]) (L' := [(0, _), (101, _), (102, _), (182, _), (183, _)]) ?_ ⟨rfl, ⟨rfl, ⟨rfl, ⟨rfl, ⟨rfl, ⟨rfl, trivial⟩⟩⟩⟩⟩⟩ ⟨rfl, ⟨rfl, ⟨rfl, ⟨rfl, ⟨rfl, trivial⟩⟩⟩⟩⟩
        refine W_regL (WL_pure rfl rfl (by decide) (Pu_move rfl rfl) (WL_pure rfl rfl (by decide) (Pu_bin rfl rfl rfl (run_lss _ _ _ _ _ _)) (WL_nil (X_then ?_))))
        refine W_cond rfl (fun hc32 => ?_) (fun hc32 => ?_)
        ·
          have hlt : y.2 < 133 := by have := of_decide_eq_true hc32; omega
          have hdx := digA_lt nm q (rndO nm q seed) msg y.2
          refine W_skip (X_then ?_)
          refine W_seq ?_
          refine W_block ?_
          refine W_seq ?_
          refine W.pre (K' := [(1, _), (4, _), (6, _), (10, _), (11, _), (12, _), (32, _)]) (L' := [(0, _), (101, _), (102, _), (182, _), (183, _)]) ?_ ⟨rfl, ⟨rfl, ⟨rfl, ⟨rfl, ⟨rfl, ⟨rfl, ⟨rfl, trivial⟩⟩⟩⟩⟩⟩⟩ ⟨rfl, ⟨rfl, ⟨rfl, ⟨rfl, ⟨rfl, trivial⟩⟩⟩⟩⟩
          refine W_draw (N := 14) (by kernel_rfl) rfl [(0, _), (101, _), (102, _), (182, _)] ⟨rfl, ⟨rfl, ⟨rfl, ⟨rfl, trivial⟩⟩⟩⟩ ?_
          refine (AH_take 0 rfl (by kernel_rfl) (by kernel_rfl) (by kernel_rfl) rfl rfl (by decide) (Pu_loadBN (r := 101) rfl Try.isAgg52 Try.sizeOf52 rfl rfl ((bs_length _).trans hn) (load_all ((bs_length _).trans hn))) (AH_take 1 rfl (by kernel_rfl) (by kernel_rfl) (by kernel_rfl) rfl rfl (by decide) (Pu_move rfl rfl) (AH_take 2 rfl (by kernel_rfl) (by kernel_rfl) (by kernel_rfl) rfl rfl (by decide) (Pu_move rfl rfl) (AH_take 3 rfl (by kernel_rfl) (by kernel_rfl) (by kernel_rfl) rfl rfl (by decide) (Pu_move rfl rfl) (AH_take 4 rfl (by kernel_rfl) (by kernel_rfl) (by kernel_rfl) rfl rfl (by decide) (Pu_idxA rfl Try.runUnderlying99 Try.sizeOf3 rfl rfl (by omega)) (AH_take 5 rfl (by kernel_rfl) (by kernel_rfl) (by kernel_rfl) rfl rfl (by decide) (Pu_loadB (r := 182) rfl Try.isAgg3 rfl rfl (digA_get nm q (rndO nm q seed) msg hlt)) (AH_take 6 rfl (by kernel_rfl) (by kernel_rfl) (by kernel_rfl) rfl rfl (by decide) (Pu_loadBN (r := 101) rfl Try.isAgg52 Try.sizeOf52 rfl rfl ((bs_length _).trans hn) (load_all ((bs_length _).trans hn))) (AH_take 7 rfl (by kernel_rfl) (by kernel_rfl) (by kernel_rfl) rfl rfl (by decide) (Pu_move rfl rfl) (AH_take 8 rfl (by kernel_rfl) (by kernel_rfl) (by kernel_rfl) rfl rfl (by decide) (Pu_move rfl rfl) (AH_take 9 rfl (by kernel_rfl) (by kernel_rfl) (by kernel_rfl) rfl rfl (by decide) (Pu_loadBN (r := 102) rfl Try.isAgg29 Try.sizeOf29 rfl rfl ((bs_length _).trans hs) (load_all ((bs_length _).trans hs))) (AH_ready [10, 12] (by kernel_rfl) (by decide) ?_)))))))))))
          refine AHs_cons rfl rfl rfl (by decide) (OpT_call 200 [0, 101, 102, 182, 183] [] rfl Try.call60 rfl rfl rfl (by decide) (by decide) (secret5_spec nm hn q (y.2 : Int) seed hs _) (fun v45 Ps45 hR45 => ?_)) ?_
          ·
            obtain ⟨rfl, rfl⟩ := hR45
            refine ⟨⟨rfl, ⟨rfl, ⟨rfl, ⟨rfl, trivial⟩⟩⟩⟩, ?_⟩
            refine (AH_ready [11, 12] (by kernel_rfl) (by decide) ?_)
            refine AHs_cons rfl rfl rfl (by decide) (OpT_call 300 [0, 101, 102, 182, 183] [] rfl Try.call59 rfl rfl rfl (by decide) (by decide) (walk5_spec nm hn q y.2 0 (digA nm q (rndO nm q seed) msg y.2) (by omega) (by omega) (hashC nm q (y.2 : Int) 255 seed) (hashC_length _ _ _ _ _) _) (fun v46 Ps46 hR46 => ?_)) ?_
            ·
              obtain ⟨rfl, rfl⟩ := hR46
              refine ⟨⟨rfl, ⟨rfl, ⟨rfl, ⟨rfl, trivial⟩⟩⟩⟩, ?_⟩
              refine (AH_ready [12] (by kernel_rfl) (by decide) ?_)
              refine AHs_cons rfl rfl rfl (by decide) (OpT_alloc (r := 301) (cs := (bs zeroId)) rfl (zero_run (by kernel_rfl : (Try.prog.info? 29).bind (·.zero) = some (.agg (bs zeroId).toArray))) rfl (fun g301 => ⟨⟨rfl, ⟨rfl, ⟨rfl, ⟨rfl, trivial⟩⟩⟩⟩, ?_⟩)) ?_
              ·
                refine (AH_ready [13] (by kernel_rfl) (by decide) ?_)
                refine AHs_cons0 rfl rfl rfl (OpT_storeAll (r := 301) rfl Try.sizeOf29 rfl rfl rfl rfl ((bs_length _).trans (sgnY_length nm q seed (rndO nm q seed) msg y.2)) (bs_one _) ?_) ?_
                ·
                  refine ⟨⟨rfl, ⟨rfl, ⟨rfl, ⟨rfl, trivial⟩⟩⟩⟩, ?_⟩
                  refine (AH_done (by kernel_rfl) (X_then ?_))
                  refine W.pre (K' := [(1, _), (4, _), (6, _), (10, _), (11, _), (12, _), (13, _), (32, _)]) (L' := [(0, _), (101, _), (102, _), (182, _), (183, _), (301, _)]) ?_ ⟨rfl, ⟨rfl, ⟨rfl, ⟨rfl, ⟨rfl, ⟨rfl, ⟨rfl, ⟨rfl, trivial⟩⟩⟩⟩⟩⟩⟩⟩ ⟨rfl, ⟨rfl, ⟨rfl, ⟨rfl, ⟨rfl, ⟨rfl, trivial⟩⟩⟩⟩⟩⟩
                  refine W_regL (WL_pure rfl rfl (by decide) (Pu_move rfl rfl) (WL_pure rfl rfl (by decide) (Pu_sliceArr rfl Try.runUnderlying29 Try.sizeOf5 rfl) (WL_cons rfl rfl (by decide) (OpT_append (r := 183) (r2 := 301) rfl Try.underlying30 TI.hi5 TI.hz5 TI.hs5 TI.hby5 TI.hzs5 (by decide) rfl rfl rfl rfl (fun _ h => blk_all h (sgnY_length nm q seed (rndO nm q seed) msg y.2)) (bs_one _) (by unfold maxLen; simp [hcl, hyl] <;> omega) (by simp [hcl, hyl] <;> omega) (fun v49 => ?_)))))
                  refine WL_turn (P' := rowB 5 v49 ([0, 0, 0, 2] ++ (rndO nm q seed) ++ rowsC (sgnY nm q seed (rndO nm q seed) msg) (y.2 + 1))) 183 rfl (fun h hp => rowB_mk hp (rows_len (sgnY_length nm q seed (rndO nm q seed) msg y.2)) (rows_step _ (sgnY nm q seed (rndO nm q seed) msg) y.2)) ?_
                  refine (WL_pure rfl rfl (by decide) (Pu_assign rfl rfl) (WL_nil (X_block (X_then ?_))))
                  refine W.pre (K' := [(1, _), (4, _), (6, _), (10, _), (11, _), (12, _), (13, _), (32, _)]) (L' := [(0, _), (101, _), (102, _), (182, _), (183, _), (301, _)]) ?_ ⟨rfl, ⟨rfl, ⟨rfl, ⟨rfl, ⟨rfl, ⟨rfl, ⟨rfl, ⟨rfl, trivial⟩⟩⟩⟩⟩⟩⟩⟩ ⟨rfl, ⟨rfl, ⟨rfl, ⟨rfl, ⟨rfl, ⟨rfl, trivial⟩⟩⟩⟩⟩⟩
                  refine W_regL (WL_pure rfl rfl (by decide) (Pu_move rfl rfl) (WL_pure rfl rfl (by decide) (Pu_bin rfl rfl rfl (run_add _ _ _ _ _ (by omega))) (WL_pure rfl rfl (by decide) (Pu_assign rfl rfl) (WL_nil ?_))))
                  exact X_round (v49, y.2 + 1) (by dsimp only; omega) (by show 133 - (y.2 + 1) < 133 - y.2; omega) ⟨rfl, rfl, rfl, rfl, rfl, rfl, trivial⟩ ⟨rfl, rfl, rfl, rfl, rfl, trivial⟩
                exact AHs_nil
              exact AHs_nil
            refine AHs_cons rfl rfl rfl (by decide) (OpT_alloc (r := 201) (cs := (bs zeroId)) rfl (zero_run (by kernel_rfl : (Try.prog.info? 29).bind (·.zero) = some (.agg (bs zeroId).toArray))) rfl (fun g201 => ⟨⟨rfl, ⟨rfl, ⟨rfl, ⟨rfl, trivial⟩⟩⟩⟩, ?_⟩)) ?_
            ·
              refine (AH_ready [11] (by kernel_rfl) (by decide) ?_)
              refine AHs_cons rfl rfl rfl (by decide) (OpT_call 300 [0, 101, 102, 182, 183, 201] [] rfl Try.call59 rfl rfl rfl (by decide) (by decide) (walk5_spec nm hn q y.2 0 (digA nm q (rndO nm q seed) msg y.2) (by omega) (by omega) (hashC nm q (y.2 : Int) 255 seed) (hashC_length _ _ _ _ _) _) (fun v46 Ps46 hR46 => ?_)) ?_
              ·
                obtain ⟨rfl, rfl⟩ := hR46
                refine ⟨⟨rfl, ⟨rfl, ⟨rfl, ⟨rfl, trivial⟩⟩⟩⟩, ?_⟩
                refine (AH_ready [13] (by kernel_rfl) (by decide) ?_)
                refine AHs_cons0 rfl rfl rfl (OpT_storeAll (r := 201) rfl Try.sizeOf29 rfl rfl rfl rfl ((bs_length _).trans (sgnY_length nm q seed (rndO nm q seed) msg y.2)) (bs_one _) ?_) ?_
                ·
                  refine ⟨⟨rfl, ⟨rfl, ⟨rfl, ⟨rfl, trivial⟩⟩⟩⟩, ?_⟩
                  refine (AH_done (by kernel_rfl) (X_then ?_))
                  refine W.pre (K' := [(1, _), (4, _), (6, _), (10, _), (11, _), (12, _), (13, _), (32, _)]) (L' := [(0, _), (101, _), (102, _), (182, _), (183, _), (201, _)]) ?_ ⟨rfl, ⟨rfl, ⟨rfl, ⟨rfl, ⟨rfl, ⟨rfl, ⟨rfl, ⟨rfl, trivial⟩⟩⟩⟩⟩⟩⟩⟩ ⟨rfl, ⟨rfl, ⟨rfl, ⟨rfl, ⟨rfl, ⟨rfl, trivial⟩⟩⟩⟩⟩⟩
                  refine W_regL (WL_pure rfl rfl (by decide) (Pu_move rfl rfl) (WL_pure rfl rfl (by decide) (Pu_sliceArr rfl Try.runUnderlying29 Try.sizeOf5 rfl) (WL_cons rfl rfl (by decide) (OpT_append (r := 183) (r2 := 201) rfl Try.underlying30 TI.hi5 TI.hz5 TI.hs5 TI.hby5 TI.hzs5 (by decide) rfl rfl rfl rfl (fun _ h => blk_all h (sgnY_length nm q seed (rndO nm q seed) msg y.2)) (bs_one _) (by unfold maxLen; simp [hcl, hyl] <;> omega) (by simp [hcl, hyl] <;> omega) (fun v49 => ?_)))))
                  refine WL_turn (P' := rowB 5 v49 ([0, 0, 0, 2] ++ (rndO nm q seed) ++ rowsC (sgnY nm q seed (rndO nm q seed) msg) (y.2 + 1))) 183 rfl (fun h hp => rowB_mk hp (rows_len (sgnY_length nm q seed (rndO nm q seed) msg y.2)) (rows_step _ (sgnY nm q seed (rndO nm q seed) msg) y.2)) ?_
                  refine (WL_pure rfl rfl (by decide) (Pu_assign rfl rfl) (WL_nil (X_block (X_then ?_))))
                  refine W.pre (K' := [(1, _), (4, _), (6, _), (10, _), (11, _), (12, _), (13, _), (32, _)]) (L' := [(0, _), (101, _), (102, _), (182, _), (183, _), (201, _)]) ?_ ⟨rfl, ⟨rfl, ⟨rfl, ⟨rfl, ⟨rfl, ⟨rfl, ⟨rfl, ⟨rfl, trivial⟩⟩⟩⟩⟩⟩⟩⟩ ⟨rfl, ⟨rfl, ⟨rfl, ⟨rfl, ⟨rfl, ⟨rfl, trivial⟩⟩⟩⟩⟩⟩
                  refine W_regL (WL_pure rfl rfl (by decide) (Pu_move rfl rfl) (WL_pure rfl rfl (by decide) (Pu_bin rfl rfl rfl (run_add _ _ _ _ _ (by omega))) (WL_pure rfl rfl (by decide) (Pu_assign rfl rfl) (WL_nil ?_))))
                  exact X_round (v49, y.2 + 1) (by dsimp only; omega) (by show 133 - (y.2 + 1) < 133 - y.2; omega) ⟨rfl, rfl, rfl, rfl, rfl, rfl, trivial⟩ ⟨rfl, rfl, rfl, rfl, rfl, trivial⟩
                exact AHs_nil
              exact AHs_nil
            exact AHs_nil
          refine AHs_cons rfl rfl rfl (by decide) (OpT_alloc (r := 103) (cs := (bs zeroId)) rfl (zero_run (by kernel_rfl : (Try.prog.info? 29).bind (·.zero) = some (.agg (bs zeroId).toArray))) rfl (fun g103 => ⟨⟨rfl, ⟨rfl, ⟨rfl, ⟨rfl, trivial⟩⟩⟩⟩, ?_⟩)) ?_
          ·
            refine (AH_ready [10] (by kernel_rfl) (by decide) ?_)
            refine AHs_cons rfl rfl rfl (by decide) (OpT_call 200 [0, 101, 102, 103, 182, 183] [] rfl Try.call60 rfl rfl rfl (by decide) (by decide) (secret5_spec nm hn q (y.2 : Int) seed hs _) (fun v45 Ps45 hR45 => ?_)) ?_
            ·
              obtain ⟨rfl, rfl⟩ := hR45
              refine ⟨⟨rfl, ⟨rfl, ⟨rfl, ⟨rfl, trivial⟩⟩⟩⟩, ?_⟩
              refine (AH_ready [11] (by kernel_rfl) (by decide) ?_)
              refine AHs_cons rfl rfl rfl (by decide) (OpT_call 300 [0, 101, 102, 103, 182, 183] [] rfl Try.call59 rfl rfl rfl (by decide) (by decide) (walk5_spec nm hn q y.2 0 (digA nm q (rndO nm q seed) msg y.2) (by omega) (by omega) (hashC nm q (y.2 : Int) 255 seed) (hashC_length _ _ _ _ _) _) (fun v46 Ps46 hR46 => ?_)) ?_
              ·
                obtain ⟨rfl, rfl⟩ := hR46
                refine ⟨⟨rfl, ⟨rfl, ⟨rfl, ⟨rfl, trivial⟩⟩⟩⟩, ?_⟩
                refine (AH_ready [13] (by kernel_rfl) (by decide) ?_)
                refine AHs_cons0 rfl rfl rfl (OpT_storeAll (r := 103) rfl Try.sizeOf29 rfl rfl rfl rfl ((bs_length _).trans (sgnY_length nm q seed (rndO nm q seed) msg y.2)) (bs_one _) ?_) ?_
                ·
                  refine ⟨⟨rfl, ⟨rfl, ⟨rfl, ⟨rfl, trivial⟩⟩⟩⟩, ?_⟩
                  refine (AH_done (by kernel_rfl) (X_then ?_))
                  refine W.pre (K' := [(1, _), (4, _), (6, _), (10, _), (11, _), (12, _), (13, _), (32, _)]) (L' := [(0, _), (101, _), (102, _), (103, _), (182, _), (183, _)]) ?_ ⟨rfl, ⟨rfl, ⟨rfl, ⟨rfl, ⟨rfl, ⟨rfl, ⟨rfl, ⟨rfl, trivial⟩⟩⟩⟩⟩⟩⟩⟩ ⟨rfl, ⟨rfl, ⟨rfl, ⟨rfl, ⟨rfl, ⟨rfl, trivial⟩⟩⟩⟩⟩⟩
                  refine W_regL (WL_pure rfl rfl (by decide) (Pu_move rfl rfl) (WL_pure rfl rfl (by decide) (Pu_sliceArr rfl Try.runUnderlying29 Try.sizeOf5 rfl) (WL_cons rfl rfl (by decide) (OpT_append (r := 183) (r2 := 103) rfl Try.underlying30 TI.hi5 TI.hz5 TI.hs5 TI.hby5 TI.hzs5 (by decide) rfl rfl rfl rfl (fun _ h => blk_all h (sgnY_length nm q seed (rndO nm q seed) msg y.2)) (bs_one _) (by unfold maxLen; simp [hcl, hyl] <;> omega) (by simp [hcl, hyl] <;> omega) (fun v49 => ?_)))))
                  refine WL_turn (P' := rowB 5 v49 ([0, 0, 0, 2] ++ (rndO nm q seed) ++ rowsC (sgnY nm q seed (rndO nm q seed) msg) (y.2 + 1))) 183 rfl (fun h hp => rowB_mk hp (rows_len (sgnY_length nm q seed (rndO nm q seed) msg y.2)) (rows_step _ (sgnY nm q seed (rndO nm q seed) msg) y.2)) ?_
                  refine (WL_pure rfl rfl (by decide) (Pu_assign rfl rfl) (WL_nil (X_block (X_then ?_))))
                  refine W.pre (K' := [(1, _), (4, _), (6, _), (10, _), (11, _), (12, _), (13, _), (32, _)]) (L' := [(0, _), (101, _), (102, _), (103, _), (182, _), (183, _)]) ?_ ⟨rfl, ⟨rfl, ⟨rfl, ⟨rfl, ⟨rfl, ⟨rfl, ⟨rfl, ⟨rfl, trivial⟩⟩⟩⟩⟩⟩⟩⟩ ⟨rfl, ⟨rfl, ⟨rfl, ⟨rfl, ⟨rfl, ⟨rfl, trivial⟩⟩⟩⟩⟩⟩
                  refine W_regL (WL_pure rfl rfl (by decide) (Pu_move rfl rfl) (WL_pure rfl rfl (by decide) (Pu_bin rfl rfl rfl (run_add _ _ _ _ _ (by omega))) (WL_pure rfl rfl (by decide) (Pu_assign rfl rfl) (WL_nil ?_))))
                  exact X_round (v49, y.2 + 1) (by dsimp only; omega) (by show 133 - (y.2 + 1) < 133 - y.2; omega) ⟨rfl, rfl, rfl, rfl, rfl, rfl, trivial⟩ ⟨rfl, rfl, rfl, rfl, rfl, trivial⟩
                exact AHs_nil
              exact AHs_nil
            exact AHs_nil
          exact AHs_nil
        ·
          have hye : y.2 = 133 := by have := of_decide_eq_false hc32; omega
          rw [hye] at hyl ⊢
          refine W_exit (X_then_exit (X_then_exit (X_block_exit (X_then ?_))))
          refine W_seq ?_
          refine W.pre (K' := [(1, _), (4, _), (6, _), (10, _), (11, _), (12, _), (32, _)]) (L' := [(0, _), (101, _), (102, _), (182, _), (183, _)]) ?_ ⟨rfl, ⟨rfl, ⟨rfl, ⟨rfl, ⟨rfl, ⟨rfl, ⟨rfl, trivial⟩⟩⟩⟩⟩⟩⟩ ⟨rfl, ⟨rfl, ⟨rfl, ⟨rfl, ⟨rfl, trivial⟩⟩⟩⟩⟩
          refine W_regL (WL_pure rfl rfl (by decide) (Pu_move rfl rfl) (WL_pure rfl rfl (by decide) (Pu_assign rfl rfl) (WL_nil (X_then ?_))))
          refine W_ret ?_
          exact X_ret [183] (Ps := [_]) (res1 Try.results38 rfl) rfl (by decide) rfl
end Go.Proofs.Ytinamipkpdlphaa
/- Signatures: what the trees' walks need, in plain words. -/
namespace Go.Proofs.Ytinamipkpdlphaa
open Go.RowKit
set_option linter.unusedVariables false
set_option linter.unusedSimpArgs false
section
variable {P : Program} {E : Env} {n : Nat} {K : Slots} {L : Res} {o : Oper}
theorem Pu_idZero (ho : o.op = .build 29 #[]) : Pure Try.prog E n o K L (.agg (bs zeroId).toArray) := fun a w hA hS => by
  have h := run_build (P := Try.prog) w 29 #[] (bs zeroId).toArray (by kernel_rfl)
  simp [execOp, ho, h]
end
theorem sz_id {y : List UInt8} (h : y.length = 32) : ∀ w, (sizeOf 29).run Try.prog w = .ok (Value.agg (bs y).toArray).cells.size w := fun w => by
  have e : (Value.agg (bs y).toArray).cells.size = 32 := by show (bs y).toArray.size = 32; simp [bs_length, h]
  rw [e]
  exact Try.sizeOf29 w
def okB (sig : List UInt8) : Bool := decide (sig.length = 4292) && (sig.take 4 == [0, 0, 0, 2])
def bckR (nm : List UInt8) (q : Int) (msg sig : List UInt8) : List UInt8 := if okB sig = true then bckO nm q msg sig else zeroId
def bckE (sig : List UInt8) : Int := if okB sig = true then 0 else 12
theorem bckR_length (nm : List UInt8) (q : Int) (msg sig : List UInt8) : (bckR nm q msg sig).length = 32 := by
  unfold bckR
  split
  · exact sha_length _
  · rfl
theorem okB_len {sig : List UInt8} (h : (!decide ((sig.length : Int) = 4292)) = true) : okB sig = false := by
  have : sig.length ≠ 4292 := by simp at h; omega
  simp [okB, this]
/-- A name, the first k bytes of it. -/
def nmTo (l : List UInt8) (k : Nat) : List UInt8 := l.take k ++ List.replicate (16 - k) 0
/-- The trees of two leaves, as they grow. -/
def trA (nm seed : List UInt8) (x : Nat) : List (List UInt8) := [zeroId, zeroId, if 0 < x then leafT nm seed 0 else zeroId, if 1 < x then leafT nm seed 1 else zeroId]
def trB (nm seed : List UInt8) (x : Nat) : List (List UInt8) := [zeroId, if 0 < x then topT nm seed else zeroId, leafT nm seed 0, leafT nm seed 1]
theorem leafT_length (nm seed : List UInt8) (q : Nat) : (leafT nm seed q).length = 32 := sha_length _
theorem topT_length (nm seed : List UInt8) : (topT nm seed).length = 32 := sha_length _
theorem trA_ids (nm seed : List UInt8) (x : Nat) : Ids (trA nm seed x) := by
  intro y hy
  simp only [trA, List.mem_cons, List.not_mem_nil, or_false] at hy
  rcases hy with rfl | rfl | rfl | rfl
  · rfl
  · rfl
  · split
    · exact leafT_length _ _ _
    · rfl
  · split
    · exact leafT_length _ _ _
    · rfl
theorem trB_ids (nm seed : List UInt8) (x : Nat) : Ids (trB nm seed x) := by
  intro y hy
  simp only [trB, List.mem_cons, List.not_mem_nil, or_false] at hy
  rcases hy with rfl | rfl | rfl | rfl
  · rfl
  · split
    · exact topT_length _ _
    · rfl
  · exact leafT_length _ _ _
  · exact leafT_length _ _ _
theorem trA_set (nm seed : List UInt8) {x : Nat} (hx : x < 2) : (trA nm seed x).set (2 + x) (leafT nm seed x) = trA nm seed (x + 1) := by
  obtain rfl | rfl : x = 0 ∨ x = 1 := by omega
  · rfl
  · rfl
theorem trA_zero (nm seed : List UInt8) : trA nm seed 0 = List.replicate 4 zeroId := rfl
theorem trA_full (nm seed : List UInt8) : trA nm seed 2 = trB nm seed 0 := rfl
theorem trB_set (nm seed : List UInt8) : (trB nm seed 0).set 1 (topT nm seed) = trB nm seed 1 := rfl
theorem trB_leaf (nm seed : List UInt8) (x : Nat) {q : Nat} (hq : q < 2) : (trB nm seed x).getD (2 + q) [] = leafT nm seed q := by
  obtain rfl | rfl : q = 0 ∨ q = 1 := by omega
  · rfl
  · rfl
theorem xor_two {q : Nat} (h : q < 2) : bits .xor .i64 ((2 + q : Nat) : Int) 1 = ((2 + (1 - q) : Nat) : Int) := by
  obtain rfl | rfl : q = 0 ∨ q = 1 := by omega
  · decide
  · decide
/-- What a check comes to. -/
theorem checkT_pub {pub msg sig : List UInt8} (h : badPub pub) : checkT pub msg sig = 11 := by unfold checkT; rw [if_pos h]
theorem checkT_sig {pub msg sig : List UInt8} (h : ¬ badPub pub) (h2 : badSig (val pub 4) sig) : checkT pub msg sig = 12 := by unfold checkT; rw [if_neg h, if_pos h2]
theorem checkT_front {pub msg sig : List UInt8} (h : ¬ badPub pub) (h2 : ¬ badSig (val pub 4) sig) (h3 : okB ((sig.drop 4).take 4292) = false) : checkT pub msg sig = 12 := by
  unfold checkT
  rw [if_neg h, if_neg h2, if_pos]
  intro h4
  have hl : ((sig.drop 4).take 4292).length = 4292 := by unfold badSig at h2; rw [List.length_take, List.length_drop]; omega
  unfold okB at h3
  rw [hl, List.take_take, show min 4 4292 = 4 from rfl, h4] at h3
  exact absurd h3 (by decide)
theorem checkT_at {pub msg sig : List UInt8} (h : ¬ badPub pub) (h2 : ¬ badSig (val pub 4) sig) (h3 : okB ((sig.drop 4).take 4292) = true) : checkT pub msg sig = if rootT pub msg sig == pub.drop 24 then 0 else 12 := by
  unfold checkT
  have h4 : (sig.drop 4).take 4 = [0, 0, 0, 2] := by
    unfold okB at h3
    rw [Bool.and_eq_true, List.take_take] at h3
    exact eq_of_beq h3.2
  rw [if_neg h, if_neg h2, if_neg (fun h => h h4)]
  by_cases hr : rootT pub msg sig = pub.drop 24
  · rw [if_pos hr, if_pos (by rw [hr]; exact beq_self_eq_true _)]
  · rw [if_neg hr, if_neg (by simpa using hr)]
theorem climb_succ (nm : List UInt8) (k r : Nat) (t p : List UInt8) : climb nm (k + 1) r t p = climb nm k (r / 2) (nodH nm ((r / 2 : Nat) : Int) 131 (if r % 2 = 1 then p.take 32 ++ t else t ++ p.take 32)) (p.drop 32) := rfl
end Go.Proofs.Ytinamipkpdlphaa
/- The document's signatures for once: what checks them. -/
namespace Go.Proofs.Ytinamipkpdlphaa
open Go.RowKit
set_option linter.unusedVariables false
set_option linter.unusedSimpArgs false
set_option maxRecDepth 8000

end Go.Proofs.Ytinamipkpdlphaa
/- The document's trees of signatures: nodes. -/
namespace Go.Proofs.Ytinamipkpdlphaa
open Go.RowKit
set_option linter.unusedVariables false
set_option linter.unusedSimpArgs false
set_option maxRecDepth 8000

theorem four6_spec (e : TypeId) (he : e = 5) (v : Value) (l : List UInt8) (n : Int) (hl : l.length ≤ 100000000) (F : HP) : CallsS Try.prog 37 #[v, .int .i64 n] F [rowB e v l] (fun r Ps => Ps = [rowB e r (l ++ numB n 4)]) := by
  subst he
  unfold rowB
  refine callsS_enter Try.func37 rfl Try.ntmps37 (by simp) (fun E => ?_)
  refine W_seq ?_
  refine W.pre (K' := [(0, _), (1, _)]) (L' := [(0, _), (1, _)]) ?_ ⟨rfl, ⟨rfl, trivial⟩⟩ ⟨rfl, ⟨rfl, trivial⟩⟩
  refine W_regL (WL_pure rfl rfl (by decide) (Pu_assign rfl rfl) (WL_nil (X_then ?_)))
  refine W_seq ?_
  refine W.pre (K' := [(0, _), (1, _), (4, _)]) (L' := [(0, _), (1, _)]) ?_ ⟨rfl, ⟨rfl, ⟨rfl, trivial⟩⟩⟩ ⟨rfl, ⟨rfl, trivial⟩⟩
  refine W_regL (WL_pure rfl rfl (by decide) (Pu_move rfl rfl) (WL_pure rfl rfl (by decide) (Pu_move rfl rfl) (WL_pure rfl rfl (by decide) (Pu_bin rfl rfl rfl (run_shr _ 24 _ _ _ (by omega))) (WL_pure rfl rfl (by decide) (Pu_conv rfl rfl (conv_byte _ _ Try.runUnderlying3 Try.runUnderlying5)) (WL_pure rfl rfl (by decide) (Pu_move rfl rfl) (WL_pure rfl rfl (by decide) (Pu_bin rfl rfl rfl (run_shr _ 16 _ _ _ (by omega))) (WL_pure rfl rfl (by decide) (Pu_conv rfl rfl (conv_byte _ _ Try.runUnderlying3 Try.runUnderlying5)) (WL_pure rfl rfl (by decide) (Pu_move rfl rfl) (WL_pure rfl rfl (by decide) (Pu_bin rfl rfl rfl (run_shr _ 8 _ _ _ (by omega))) (WL_pure rfl rfl (by decide) (Pu_conv rfl rfl (conv_byte _ _ Try.runUnderlying3 Try.runUnderlying5)) (WL_pure rfl rfl (by decide) (Pu_move rfl rfl) (WL_pure rfl rfl (by decide) (Pu_conv rfl rfl (conv_byte _ _ Try.runUnderlying3 Try.runUnderlying5)) (WL_cons rfl rfl (by decide) (OpT_buildOnes (r := 101) (bs (numB n 4)) rfl rfl Try.runUnderlying30 Try.sizeOf5 Try.zeroValue5 rfl rfl (by decide) (by rw [numB_four]; rfl) (bs_cells _) (fun v17 => (WL_cons rfl rfl (by decide) (OpT_append (r := 1) (r2 := 101) rfl Try.underlying30 TI.hi5 TI.hz5 TI.hs5 TI.hby5 TI.hzs5 (by decide) rfl rfl rfl rfl (fun _ h => rowP_rd h) (bs_one _) (by unfold maxLen; omega) (by omega) (fun v18 => ?_))))))))))))))))))
  refine (WL_pure rfl rfl (by decide) (Pu_assign rfl rfl) (WL_nil (X_then ?_)))
  refine W_ret ?_
  exact X_ret [1] (Ps := [_]) (res1 Try.results37 rfl) rfl (by decide) (congrArg (· :: []) (rowB_of _ (by simp [numB_length]) (by rw [bs_append])))
theorem node6_spec (nm : List UInt8) (hn : nm.length = 16) (r : Int) (mark : UInt8) (bw : Value) (b : List UInt8) (hbl : b.length ≤ 1000000) (F : HP) (hb : ∀ h, F h → rdB bw b h) : CallsS Try.prog 53 #[idV nm, .int .i64 r, bv mark, bw] F [] (fun v Ps => v = idV (nodH nm r mark b) ∧ Ps = []) := by
  refine callsS_enter Try.func53 rfl Try.ntmps53 (by simp) (fun E => ?_)
  refine W_seq ?_
  refine W.pre (K' := [(0, _), (1, _), (2, _), (3, _)]) (L' := [(0, _)]) ?_ ⟨rfl, ⟨rfl, ⟨rfl, ⟨rfl, trivial⟩⟩⟩⟩ ⟨rfl, trivial⟩
  refine W_regL (WL_cons rfl rfl (by decide) (OpT_box (r := 101) rfl rfl rfl (fun g101 => (WL_cons rfl rfl (by decide) (OpT_alloc (r := 102) (cs := (bs zeroId)) rfl (zero_run (by kernel_rfl : (Try.prog.info? 29).bind (·.zero) = some (.agg (bs zeroId).toArray))) rfl (fun g102 => (WL_nil (X_then ?_))))))))
  refine W_seq ?_
  refine W.pre (K' := [(0, _), (1, _), (2, _), (3, _), (4, _), (8, _)]) (L' := [(0, _), (101, _), (102, _)]) ?_ ⟨rfl, ⟨rfl, ⟨rfl, ⟨rfl, ⟨rfl, ⟨rfl, trivial⟩⟩⟩⟩⟩⟩ ⟨rfl, ⟨rfl, ⟨rfl, trivial⟩⟩⟩
  refine W_regL (WL_cons rfl rfl (by decide) (OpT_buildOnes (r := 103) (bs []) rfl rfl Try.runUnderlying30 Try.sizeOf5 Try.zeroValue5 rfl rfl (by decide) rfl (bs_cells _) (fun v10 => (WL_pure rfl rfl (by decide) (Pu_sliceArr rfl Try.runUnderlying52 Try.sizeOf5 rfl) (WL_cons rfl rfl (by decide) (OpT_append (r := 103) (r2 := 101) rfl Try.underlying30 TI.hi5 TI.hz5 TI.hs5 TI.hby5 TI.hzs5 (by decide) rfl rfl rfl rfl (fun _ h => blk_all h hn) (bs_one _) (by unfold maxLen; omega) (by omega) (fun v12 => ?_)))))))
  refine WL_turn (P' := rowB 5 v12 (nm)) 103 rfl (fun h hp => rowB_mk hp (by simp [hn]) (by simp [bs])) ?_
  refine (WL_pure rfl rfl (by decide) (Pu_move rfl rfl) (WL_cons rfl rfl (by decide) (OpT_call 200 [0, 101, 102] [103] rfl Try.call37 rfl rfl rfl (by decide) (by decide) (four6_spec _ rfl _ nm r (by omega) _) (fun v14 Ps14 hR14 => ?_))))
  subst hR14
  refine WL_turn (P' := rowB 5 v14 (hdL nm r)) 200 rfl (fun h hp => hp) ?_
  refine (WL_pure rfl rfl (by decide) (Pu_move rfl rfl) (WL_pure rfl rfl (by decide) (Pu_move rfl rfl) (WL_cons rfl rfl (by decide) (OpT_buildOnes (r := 201) (bs [mark, mark]) rfl rfl Try.runUnderlying30 Try.sizeOf5 Try.zeroValue5 rfl rfl (by decide) rfl (bs_cells _) (fun v17 => (WL_cons rfl rfl (by decide) (OpT_append (r := 200) (r2 := 201) rfl Try.underlying30 TI.hi5 TI.hz5 TI.hs5 TI.hby5 TI.hzs5 (by decide) rfl rfl rfl rfl (fun _ h => rowP_rd h) (bs_one _) (by unfold maxLen; simp [hdL_length hn, numB_length, *] <;> omega) (by simp [hdL_length hn, numB_length, *] <;> omega) (fun v18 => ?_))))))))
  refine WL_turn (P' := rowB 5 v18 (hdL nm r ++ [mark, mark])) 200 rfl (fun h hp => rowB_mk hp (by simp [hdL_length hn, numB_length, *] <;> omega) (by simp only [bs_append])) ?_
  refine (WL_pure rfl rfl (by decide) (Pu_assign rfl rfl) (WL_nil (X_then ?_)))
  refine W_seq ?_
  refine W.pre (K' := [(0, _), (1, _), (2, _), (3, _), (4, _), (8, _), (9, _)]) (L' := [(0, _), (101, _), (102, _), (200, _), (201, _)]) ?_ ⟨rfl, ⟨rfl, ⟨rfl, ⟨rfl, ⟨rfl, ⟨rfl, ⟨rfl, trivial⟩⟩⟩⟩⟩⟩⟩ ⟨rfl, ⟨rfl, ⟨rfl, ⟨rfl, ⟨rfl, trivial⟩⟩⟩⟩⟩
  refine W_regL (WL_pure rfl rfl (by decide) (Pu_move rfl rfl) (WL_pure rfl rfl (by decide) (Pu_move rfl rfl) (WL_cons rfl rfl (by decide) (OpT_append (r := 200) (r2 := 0) rfl Try.underlying30 TI.hi5 TI.hz5 TI.hs5 TI.hby5 TI.hzs5 (by decide) rfl rfl rfl rfl hb (bs_one _) (by unfold maxLen; simp [hdL_length hn, numB_length, *] <;> omega) (by simp [hdL_length hn, numB_length, *] <;> omega) (fun v21 => ?_)))))
  refine WL_turn (P' := rowB 5 v21 (hdL nm r ++ [mark, mark] ++ b)) 200 rfl (fun h hp => rowB_mk hp (by simp [hdL_length hn, numB_length, *] <;> omega) (by simp only [bs_append])) ?_
  refine (WL_cons rfl rfl (by decide) (OpT_call 300 [0, 101, 102, 200, 201] [] rfl Try.call14 rfl rfl rfl (by decide) (by decide) (refSum_spec v21 (hdL nm r ++ [mark, mark] ++ b) (by simp [hdL_length hn] <;> omega) _ (rd_star 3 rfl rowB_rd)) (fun v22 Ps22 hR22 => ?_)))
  obtain ⟨rfl, rfl⟩ := hR22
  refine (WL_cons0 rfl rfl (OpT_storeAll (r := 102) rfl Try.sizeOf29 rfl rfl rfl rfl ((bs_length _).trans (sha_length _)) (bs_one _) ?_))
  refine (WL_nil (X_then ?_))
  refine W_ret ?_
  exact X_ret [] (Ps := []) (resC1 (r := 102) Try.results53 rfl Try.isAgg29 Try.sizeOf29 rfl ((bs_length _).trans (sha_length _))) rfl (by decide) ⟨rfl, rfl⟩
end Go.Proofs.Ytinamipkpdlphaa
/- The document's trees of signatures: keys. -/
namespace Go.Proofs.Ytinamipkpdlphaa
open Go.RowKit
set_option linter.unusedVariables false
set_option linter.unusedSimpArgs false
set_option maxRecDepth 8000

theorem tree6_spec (nm : List UInt8) (hn : nm.length = 16) (seed : List UInt8) (hs : seed.length = 32) (F : HP) : CallsS Try.prog 36 #[idV nm, idV seed, .int .i64 1] F [] (fun r Ps => Ps = [rowI 29 r (trB nm seed 1)]) := by
  refine callsS_enter Try.func36 rfl Try.ntmps36 (by simp) (fun E => ?_)
  refine W_seq ?_
  refine W.pre (K' := [(0, _), (1, _), (2, _)]) (L' := [(0, _)]) ?_ ⟨rfl, ⟨rfl, ⟨rfl, trivial⟩⟩⟩ ⟨rfl, trivial⟩
  refine W_regL (WL_cons rfl rfl (by decide) (OpT_box (r := 101) rfl rfl rfl (fun g101 => (WL_cons rfl rfl (by decide) (OpT_box (r := 102) rfl rfl rfl (fun g102 => (WL_pure rfl rfl (by decide) (Pu_assign rfl rfl) (WL_nil (X_then ?_)))))))))
  refine W_seq ?_
  refine W.pre (K' := [(0, _), (1, _), (2, _), (3, _), (4, _), (6, _)]) (L' := [(0, _), (101, _), (102, _)]) ?_ ⟨rfl, ⟨rfl, ⟨rfl, ⟨rfl, ⟨rfl, ⟨rfl, trivial⟩⟩⟩⟩⟩⟩ ⟨rfl, ⟨rfl, ⟨rfl, trivial⟩⟩⟩
  refine W_regL (WL_pure rfl rfl (by decide) (Pu_move rfl rfl) (WL_pure rfl rfl (by decide) (Pu_conv rfl rfl (conv_u64 1 Try.runUnderlying3 Try.runUnderlying71 (by omega))) (WL_pure rfl rfl (by decide) (Pu_bin rfl rfl rfl (run_shl 1 1 _ _ _ (by decide) (by decide))) ?_)))
  rw [show ((1 * 2 ^ 1 : Nat) : Int) = 2 from rfl]
  refine (WL_pure rfl rfl (by decide) (Pu_assign rfl rfl) (WL_nil (X_then ?_)))
  refine W_seq ?_
  refine W.pre (K' := [(0, _), (1, _), (2, _), (3, _), (4, _), (6, _), (7, _)]) (L' := [(0, _), (101, _), (102, _)]) ?_ ⟨rfl, ⟨rfl, ⟨rfl, ⟨rfl, ⟨rfl, ⟨rfl, ⟨rfl, trivial⟩⟩⟩⟩⟩⟩⟩ ⟨rfl, ⟨rfl, ⟨rfl, trivial⟩⟩⟩
  refine W_regL (WL_pure rfl rfl (by decide) (Pu_move rfl rfl) (WL_pure rfl rfl (by decide) (Pu_bin rfl rfl rfl (run_mul _ _ _ _ _ (by omega))) (WL_cons rfl rfl (by decide) (OpT_make (r := 103) (m := 4) rfl Try.underlying80 TI.hi29 TI.hz29 TI.hs29 rfl rfl (by rw [TI.hby29]; omega) (by unfold maxLen; omega) (made_ids _) (fun v17 => ?_)))))
  refine (WL_pure rfl rfl (by decide) (Pu_assign rfl rfl) (WL_nil (X_then ?_)))
  refine W_seq ?_
  refine W_seq ?_
  refine W.pre (K' := [(0, _), (1, _), (2, _), (3, _), (4, _), (6, _), (7, _), (8, _)]) (L' := [(0, _), (101, _), (102, _), (103, _)]) ?_ ⟨rfl, ⟨rfl, ⟨rfl, ⟨rfl, ⟨rfl, ⟨rfl, ⟨rfl, ⟨rfl, trivial⟩⟩⟩⟩⟩⟩⟩⟩ ⟨rfl, ⟨rfl, ⟨rfl, ⟨rfl, trivial⟩⟩⟩⟩
  refine W_regL (WL_pure rfl rfl (by decide) (Pu_assign rfl rfl) (WL_nil (X_then ?_)))
  refine W_block ?_
  refine W_loop (α := Nat) (fun x => [(3, .pointer (some ⟨g101, 0, none⟩)), (4, .pointer (some ⟨g102, 0, none⟩)), (7, .int .i64 2), (8, v17), (9, .int .i64 (x : Int))]) (fun x => [(0, F), (101, blk g101 52 (bs nm)), (102, blk g102 29 (bs seed)), (103, rowI 29 v17 (trA nm seed x))]) (fun x => x ≤ 2) (fun x => 2 - x) (0) (by omega) ⟨rfl, ⟨rfl, ⟨rfl, ⟨rfl, ⟨rfl, trivial⟩⟩⟩⟩⟩ ⟨rfl, rfl, rfl, look_eq rfl (by rw [trA_zero]; exact rowI_of _ (by simp) rfl), trivial⟩ (fun x hx => ?_)
  have hids := trA_ids nm seed x
  have hl4 : (trA nm seed x).length = 4 := rfl
  unfold rowI
  refine W_seq ?_
  refine W_seq ?_
  refine W.pre (K' := [(3, _), (4, _), (7, _), (8, _), (9, _)]) (L' := [(0, _), (101, _), (102, _), (103, _)]) ?_ ⟨rfl, ⟨rfl, ⟨rfl, ⟨rfl, ⟨rfl, trivial⟩⟩⟩⟩⟩ ⟨rfl, ⟨rfl, ⟨rfl, ⟨rfl, trivial⟩⟩⟩⟩
  refine W_regL (WL_pure rfl rfl (by decide) (Pu_move rfl rfl) (WL_pure rfl rfl (by decide) (Pu_move rfl rfl) (WL_pure rfl rfl (by decide) (Pu_bin rfl rfl rfl (run_lss _ _ _ _ _ _)) (WL_nil (X_then ?_)))))
  refine W_cond rfl (fun hc20 => ?_) (fun hc20 => ?_)
  ·
    have hlt : x < 2 := by have := of_decide_eq_true hc20; omega
    refine W_skip (X_then ?_)
    refine W_seq ?_
    refine W_block ?_
    refine W_seq ?_
    refine W.pre (K' := [(3, _), (4, _), (7, _), (8, _), (9, _), (20, _)]) (L' := [(0, _), (101, _), (102, _), (103, _)]) ?_ ⟨rfl, ⟨rfl, ⟨rfl, ⟨rfl, ⟨rfl, ⟨rfl, trivial⟩⟩⟩⟩⟩⟩ ⟨rfl, ⟨rfl, ⟨rfl, ⟨rfl, trivial⟩⟩⟩⟩
    refine W_regL (WL_pure rfl rfl (by decide) (Pu_loadBN (r := 101) rfl Try.isAgg52 Try.sizeOf52 rfl rfl ((bs_length _).trans hn) (load_all ((bs_length _).trans hn))) (WL_pure rfl rfl (by decide) (Pu_move rfl rfl) (WL_pure rfl rfl (by decide) (Pu_loadBN (r := 102) rfl Try.isAgg29 Try.sizeOf29 rfl rfl ((bs_length _).trans hs) (load_all ((bs_length _).trans hs))) (WL_cons rfl rfl (by decide) (OpT_call 200 [0, 101, 102, 103] [] rfl Try.call54 rfl rfl rfl (by decide) (by decide) (public5_spec nm hn (x : Int) seed hs _) (fun v26 Ps26 hR26 => ?_))))))
    obtain ⟨rfl, rfl⟩ := hR26
    refine (WL_cons rfl rfl (by decide) (OpT_alloc (r := 201) (cs := (bs zeroId)) rfl (zero_run (by kernel_rfl : (Try.prog.info? 29).bind (·.zero) = some (.agg (bs zeroId).toArray))) rfl (fun g201 => (WL_cons0 rfl rfl (OpT_storeAll (r := 201) rfl Try.sizeOf29 rfl rfl rfl rfl ((bs_length _).trans (sha_length _)) (bs_one _) ?_)))))
    refine (WL_nil (X_then ?_))
    refine W.pre (K' := [(3, _), (4, _), (7, _), (8, _), (9, _), (10, _), (20, _)]) (L' := [(0, _), (101, _), (102, _), (103, _), (201, _)]) ?_ ⟨rfl, ⟨rfl, ⟨rfl, ⟨rfl, ⟨rfl, ⟨rfl, ⟨rfl, trivial⟩⟩⟩⟩⟩⟩⟩ ⟨rfl, ⟨rfl, ⟨rfl, ⟨rfl, ⟨rfl, trivial⟩⟩⟩⟩⟩
    refine W_draw (N := 12) (by kernel_rfl) rfl [(0, _), (101, _), (102, _), (201, _)] ⟨rfl, ⟨rfl, ⟨rfl, ⟨rfl, trivial⟩⟩⟩⟩ ?_
    refine (AH_take 0 rfl (by kernel_rfl) (by kernel_rfl) (by kernel_rfl) rfl rfl (by decide) (Pu_move rfl rfl) (AH_take 1 rfl (by kernel_rfl) (by kernel_rfl) (by kernel_rfl) rfl rfl (by decide) (Pu_move rfl rfl) (AH_take 2 rfl (by kernel_rfl) (by kernel_rfl) (by kernel_rfl) rfl rfl (by decide) (Pu_move rfl rfl) (AH_take 3 rfl (by kernel_rfl) (by kernel_rfl) (by kernel_rfl) rfl rfl (by decide) (Pu_bin rfl rfl rfl (run_add _ _ _ _ _ (by omega))) ?_))))
    rw [show (2 : Int) + (x : Int) = ((2 + x : Nat) : Int) by omega]
    refine (AH_take 4 rfl (by kernel_rfl) (by kernel_rfl) (by kernel_rfl) rfl rfl (by decide) (Pu_loadBN (r := 101) rfl Try.isAgg52 Try.sizeOf52 rfl rfl ((bs_length _).trans hn) (load_all ((bs_length _).trans hn))) (AH_take 5 rfl (by kernel_rfl) (by kernel_rfl) (by kernel_rfl) rfl rfl (by decide) (Pu_move rfl rfl) (AH_take 6 rfl (by kernel_rfl) (by kernel_rfl) (by kernel_rfl) rfl rfl (by decide) (Pu_move rfl rfl) (AH_take 7 rfl (by kernel_rfl) (by kernel_rfl) (by kernel_rfl) rfl rfl (by decide) (Pu_bin rfl rfl rfl (run_add _ _ _ _ _ (by omega))) ?_))))
    try rw [show (2 : Int) + (x : Int) = ((2 + x : Nat) : Int) by omega]
    refine (AH_take 8 rfl (by kernel_rfl) (by kernel_rfl) (by kernel_rfl) rfl rfl (by decide) (Pu_sliceArr rfl Try.runUnderlying29 Try.sizeOf5 rfl) (AH_ready [9] (by kernel_rfl) (by decide) ?_))
    refine AHs_cons rfl rfl rfl (by decide) (OpT_call 300 [0, 101, 102, 103, 201] [] rfl Try.call53 rfl rfl rfl (by decide) (by decide) (node6_spec nm hn ((2 + x : Nat) : Int) 130 _ (pubO nm (x : Int) seed) (by rw [show (pubO nm (x : Int) seed).length = 32 from sha_length _]; omega) _ (fun h hp => rdP_cast (rd_star 4 rfl (fun _ h => blk_all (m := 32) h (sha_length _)) h hp) rfl (sha_length _).symm)) (fun v36 Ps36 hR36 => ?_)) ?_
    ·
      obtain ⟨rfl, rfl⟩ := hR36
      refine ⟨⟨rfl, ⟨rfl, ⟨rfl, ⟨rfl, trivial⟩⟩⟩⟩, ?_⟩
      refine (AH_ready [10] (by kernel_rfl) (by decide) ?_)
      refine AHs_cons rfl rfl rfl (by decide) (OpT_run (Pu_idxS (r := 103) rfl Try.runUnderlying80 Try.sizeOf29 rfl rfl rfl (fun _ h => rowP_rd h) (by rw [hl4]; omega)) ⟨⟨rfl, ⟨rfl, ⟨rfl, ⟨rfl, trivial⟩⟩⟩⟩, ?_⟩) ?_
      ·
        refine (AH_ready [11] (by kernel_rfl) (by decide) ?_)
        refine AHs_cons0 rfl rfl rfl (OpT_storeS (r := 103) rfl (sz_id (leafT_length nm seed x)) rfl rfl rfl (show 0 < (bs (leafT nm seed x)).length by rw [bs_length, leafT_length]; decide) (by rw [idsC_length hids, hl4]; show _ + (bs (leafT nm seed x)).length ≤ _; rw [bs_length, leafT_length]; have : (((2 + x : Nat) : Int)).toNat = 2 + x := rfl; omega) (bs_one _) (show over (idsC (trA nm seed x)) ((2 + x) * 32) (bs (leafT nm seed x)) = _ from idsC_set hids (by rw [hl4]; omega) (leafT_length _ _ _)) ?_) ?_
        ·
          refine ⟨⟨rfl, ⟨rfl, ⟨rfl, ⟨rfl, trivial⟩⟩⟩⟩, ?_⟩
          refine (AH_done (by kernel_rfl) (X_block (X_then ?_)))
          refine W.pre (K' := [(3, _), (4, _), (7, _), (8, _), (9, _), (10, _), (20, _)]) (L' := [(0, _), (101, _), (102, _), (103, _), (201, _)]) ?_ ⟨rfl, ⟨rfl, ⟨rfl, ⟨rfl, ⟨rfl, ⟨rfl, ⟨rfl, trivial⟩⟩⟩⟩⟩⟩⟩ ⟨rfl, ⟨rfl, ⟨rfl, ⟨rfl, ⟨rfl, trivial⟩⟩⟩⟩⟩
          refine W_regL (WL_pure rfl rfl (by decide) (Pu_move rfl rfl) (WL_pure rfl rfl (by decide) (Pu_bin rfl rfl rfl (run_add _ _ _ _ _ (by omega))) (WL_pure rfl rfl (by decide) (Pu_assign rfl rfl) (WL_nil ?_))))
          exact X_round (x + 1) (by omega) (by omega) ⟨rfl, rfl, rfl, rfl, rfl, trivial⟩ ⟨rfl, rfl, rfl, look_eq rfl (by rw [← trA_set nm seed hlt]; exact rowI_of _ (by rw [List.length_set]) rfl), trivial⟩
        exact AHs_nil
      exact AHs_nil
    exact AHs_nil
  ·
    obtain rfl : x = 2 := by have := of_decide_eq_false hc20; omega
    refine W_exit (X_then_exit (X_then_exit (X_block_exit (X_then ?_))))
    refine W_seq ?_
    refine W_seq ?_
    refine W.pre (K' := [(3, _), (4, _), (7, _), (8, _), (9, _), (20, _)]) (L' := [(0, _), (101, _), (102, _), (103, _)]) ?_ ⟨rfl, ⟨rfl, ⟨rfl, ⟨rfl, ⟨rfl, ⟨rfl, trivial⟩⟩⟩⟩⟩⟩ ⟨rfl, ⟨rfl, ⟨rfl, ⟨rfl, trivial⟩⟩⟩⟩
    refine W_regL (WL_pure rfl rfl (by decide) (Pu_move rfl rfl) (WL_pure rfl rfl (by decide) (Pu_bin rfl rfl rfl (run_sub _ _ _ _ _ (by omega))) (WL_pure rfl rfl (by decide) (Pu_assign rfl rfl) (WL_nil (X_then ?_)))))
    refine W_block ?_
    refine W_loop (α := Nat) (fun x => [(3, .pointer (some ⟨g101, 0, none⟩)), (4, .pointer (some ⟨g102, 0, none⟩)), (7, .int .i64 2), (8, v17), (11, .int .i64 (1 - (x : Int)))]) (fun x => [(0, F), (101, blk g101 52 (bs nm)), (102, blk g102 29 (bs seed)), (103, rowI 29 v17 (trB nm seed x))]) (fun x => x ≤ 1) (fun x => 1 - x) (0) (by omega) ⟨rfl, ⟨rfl, ⟨rfl, ⟨rfl, ⟨rfl, trivial⟩⟩⟩⟩⟩ ⟨rfl, rfl, rfl, look_eq rfl (by rw [trA_full]; rfl), trivial⟩ (fun x hx => ?_)
    have hids := trB_ids nm seed x
    have hl4 : (trB nm seed x).length = 4 := rfl
    unfold rowI
    refine W_seq ?_
    refine W_seq ?_
    refine W.pre (K' := [(3, _), (4, _), (7, _), (8, _), (11, _)]) (L' := [(0, _), (101, _), (102, _), (103, _)]) ?_ ⟨rfl, ⟨rfl, ⟨rfl, ⟨rfl, ⟨rfl, trivial⟩⟩⟩⟩⟩ ⟨rfl, ⟨rfl, ⟨rfl, ⟨rfl, trivial⟩⟩⟩⟩
    refine W_regL (WL_pure rfl rfl (by decide) (Pu_move rfl rfl) (WL_pure rfl rfl (by decide) (Pu_bin rfl rfl rfl (run_gtr _ _ _ _ _ _)) (WL_nil (X_then ?_))))
    refine W_cond rfl (fun hc41 => ?_) (fun hc41 => ?_)
    ·
      obtain rfl : x = 0 := by have := of_decide_eq_true hc41; omega
      have hv1 : (1 : Int) - ((0 : Nat) : Int) = 1 := rfl
      rw [hv1]
      refine W_skip (X_then ?_)
      refine W_seq ?_
      refine W_block ?_
      refine W.pre (K' := [(3, _), (4, _), (7, _), (8, _), (11, _), (41, _)]) (L' := [(0, _), (101, _), (102, _), (103, _)]) ?_ ⟨rfl, ⟨rfl, ⟨rfl, ⟨rfl, ⟨rfl, ⟨rfl, trivial⟩⟩⟩⟩⟩⟩ ⟨rfl, ⟨rfl, ⟨rfl, ⟨rfl, trivial⟩⟩⟩⟩
      refine W_draw (N := 21) (by kernel_rfl) rfl [(0, _), (101, _), (102, _)] ⟨rfl, ⟨rfl, ⟨rfl, trivial⟩⟩⟩ ?_
      refine (AH_take 0 rfl (by kernel_rfl) (by kernel_rfl) (by kernel_rfl) rfl rfl (by decide) (Pu_move rfl rfl) (AH_take 1 rfl (by kernel_rfl) (by kernel_rfl) (by kernel_rfl) rfl rfl (by decide) (Pu_move rfl rfl) (AH_take 2 rfl (by kernel_rfl) (by kernel_rfl) (by kernel_rfl) rfl rfl (by decide) (Pu_loadBN (r := 101) rfl Try.isAgg52 Try.sizeOf52 rfl rfl ((bs_length _).trans hn) (load_all ((bs_length _).trans hn))) (AH_take 3 rfl (by kernel_rfl) (by kernel_rfl) (by kernel_rfl) rfl rfl (by decide) (Pu_move rfl rfl) (AH_take 5 rfl (by kernel_rfl) (by kernel_rfl) (by kernel_rfl) rfl rfl (by decide) (Pu_move rfl rfl) (AH_take 6 rfl (by kernel_rfl) (by kernel_rfl) (by kernel_rfl) rfl rfl (by decide) (Pu_move rfl rfl) (AH_take 7 rfl (by kernel_rfl) (by kernel_rfl) (by kernel_rfl) rfl rfl (by decide) (Pu_bin rfl rfl rfl (run_mul _ _ _ _ _ (by omega))) (AH_take 11 rfl (by kernel_rfl) (by kernel_rfl) (by kernel_rfl) rfl rfl (by decide) (Pu_move rfl rfl) (AH_take 12 rfl (by kernel_rfl) (by kernel_rfl) (by kernel_rfl) rfl rfl (by decide) (Pu_move rfl rfl) (AH_take 13 rfl (by kernel_rfl) (by kernel_rfl) (by kernel_rfl) rfl rfl (by decide) (Pu_bin rfl rfl rfl (run_mul _ _ _ _ _ (by omega))) (AH_take 14 rfl (by kernel_rfl) (by kernel_rfl) (by kernel_rfl) rfl rfl (by decide) (Pu_bin rfl rfl rfl (run_add _ _ _ _ _ (by omega))) (AH_ready [4, 8, 15] (by kernel_rfl) (by decide) ?_))))))))))))
      refine AHs_cons rfl rfl rfl (by decide) (OpT_buildOnes (r := 104) (bs []) rfl rfl Try.runUnderlying30 Try.sizeOf5 Try.zeroValue5 rfl rfl (by decide) rfl (bs_cells _) (fun v48 => ⟨⟨rfl, ⟨rfl, ⟨rfl, trivial⟩⟩⟩, ?_⟩)) ?_
      ·
        refine (AH_ready [8, 15] (by kernel_rfl) (by decide) ?_)
        refine AHs_cons rfl rfl rfl (by decide) (OpT_run (Pu_idxS (r := 103) rfl Try.runUnderlying80 Try.sizeOf29 rfl rfl rfl (fun _ h => rowP_rd h) (by rw [hl4]; omega)) ⟨⟨rfl, ⟨rfl, ⟨rfl, trivial⟩⟩⟩, ?_⟩) ?_
        ·
          refine (AH_take 9 rfl (by kernel_rfl) (by kernel_rfl) (by kernel_rfl) rfl rfl (by decide) (Pu_sliceArrE rfl Try.runUnderlying29 Try.sizeOf5 rfl) (AH_ready [10, 15] (by kernel_rfl) (by decide) ?_))
          refine AHs_cons rfl rfl rfl (by decide) (OpT_append (r := 104) (r2 := 103) rfl Try.underlying30 TI.hi5 TI.hz5 TI.hs5 TI.hby5 TI.hzs5 (by decide) rfl rfl rfl rfl (fun h hp => rdP_cast (rd_id (l := trB nm seed 0) (k := 2) (rowP_rd hp) hids (by rw [hl4]; omega)) rfl (leafT_length nm seed 0)) (bs_one _) (by unfold maxLen; omega) (by omega) (fun v54 => ?_)) ?_
          ·
            refine ⟨⟨rfl, ⟨rfl, ⟨rfl, trivial⟩⟩⟩, ?_⟩
            refine AH_turn (P' := rowB 5 v54 (leafT nm seed 0)) 104 rfl (fun h hp => rowB_mk hp (by simp [leafT_length]) (by simp [bs, trB])) ?_
            refine (AH_ready [15] (by kernel_rfl) (by decide) ?_)
            refine AHs_cons rfl rfl rfl (by decide) (OpT_run (Pu_idxS (r := 103) rfl Try.runUnderlying80 Try.sizeOf29 rfl rfl rfl (fun _ h => rowP_rd h) (by rw [hl4]; omega)) ⟨⟨rfl, ⟨rfl, ⟨rfl, trivial⟩⟩⟩, ?_⟩) ?_
            ·
              refine (AH_take 16 rfl (by kernel_rfl) (by kernel_rfl) (by kernel_rfl) rfl rfl (by decide) (Pu_sliceArrE rfl Try.runUnderlying29 Try.sizeOf5 rfl) (AH_ready [17] (by kernel_rfl) (by decide) ?_))
              refine AHs_cons rfl rfl rfl (by decide) (OpT_append (r := 104) (r2 := 103) rfl Try.underlying30 TI.hi5 TI.hz5 TI.hs5 TI.hby5 TI.hzs5 (by decide) rfl rfl rfl rfl (fun h hp => rdP_cast (rd_id (l := trB nm seed 0) (k := 3) (rowP_rd hp) hids (by rw [hl4]; omega)) rfl (leafT_length nm seed 1)) (bs_one _) (by unfold maxLen; rw [leafT_length]; omega) (by rw [leafT_length]; omega) (fun v61 => ?_)) ?_
              ·
                refine ⟨⟨rfl, ⟨rfl, ⟨rfl, trivial⟩⟩⟩, ?_⟩
                refine AH_turn (P' := rowB 5 v61 (leafT nm seed 0 ++ leafT nm seed 1)) 104 rfl (fun h hp => rowB_mk hp (by simp [leafT_length]) (by rw [bs_append]; rfl)) ?_
                refine (AH_ready [18] (by kernel_rfl) (by decide) ?_)
                refine AHs_cons rfl rfl rfl (by decide) (OpT_call 200 [0, 101, 102, 103, 104] [] rfl Try.call53 rfl rfl rfl (by decide) (by decide) (node6_spec nm hn 1 131 v61 (leafT nm seed 0 ++ leafT nm seed 1) (by rw [List.length_append, leafT_length, leafT_length]; omega) _ (rd_star 4 rfl rowB_rd)) (fun v62 Ps62 hR62 => ?_)) ?_
                ·
                  obtain ⟨rfl, rfl⟩ := hR62
                  refine ⟨⟨rfl, ⟨rfl, ⟨rfl, trivial⟩⟩⟩, ?_⟩
                  refine (AH_ready [19] (by kernel_rfl) (by decide) ?_)
                  refine AHs_cons rfl rfl rfl (by decide) (OpT_run (Pu_idxS (r := 103) rfl Try.runUnderlying80 Try.sizeOf29 rfl rfl rfl (fun _ h => rowP_rd h) (by rw [hl4]; omega)) ⟨⟨rfl, ⟨rfl, ⟨rfl, trivial⟩⟩⟩, ?_⟩) ?_
                  ·
                    refine (AH_ready [20] (by kernel_rfl) (by decide) ?_)
                    refine AHs_cons0 rfl rfl rfl (OpT_storeS (r := 103) rfl (sz_id (topT_length nm seed)) rfl rfl rfl (show 0 < (bs (topT nm seed)).length by rw [bs_length, topT_length]; decide) (by rw [idsC_length hids, hl4]; show _ + (bs (topT nm seed)).length ≤ _; rw [bs_length, topT_length]; decide) (bs_one _) (show over (idsC (trB nm seed 0)) (1 * 32) (bs (topT nm seed)) = _ from idsC_set hids (by rw [hl4]; omega) (topT_length _ _)) ?_) ?_
                    ·
                      refine ⟨⟨rfl, ⟨rfl, ⟨rfl, trivial⟩⟩⟩, ?_⟩
                      refine (AH_done (by kernel_rfl) (X_block (X_then ?_)))
                      refine W.pre (K' := [(3, _), (4, _), (7, _), (8, _), (11, _), (41, _)]) (L' := [(0, _), (101, _), (102, _), (103, _), (104, _)]) ?_ ⟨rfl, ⟨rfl, ⟨rfl, ⟨rfl, ⟨rfl, ⟨rfl, trivial⟩⟩⟩⟩⟩⟩ ⟨rfl, ⟨rfl, ⟨rfl, ⟨rfl, ⟨rfl, trivial⟩⟩⟩⟩⟩
                      refine W_regL (WL_pure rfl rfl (by decide) (Pu_move rfl rfl) (WL_pure rfl rfl (by decide) (Pu_bin rfl rfl rfl (run_sub _ _ _ _ _ (by omega))) (WL_pure rfl rfl (by decide) (Pu_assign rfl rfl) (WL_nil ?_))))
                      exact X_round 1 (by omega) (by omega) ⟨rfl, rfl, rfl, rfl, lookV_eq rfl (int_eq (by omega)), trivial⟩ ⟨rfl, rfl, rfl, look_eq rfl (by rw [← trB_set nm seed]; exact rowI_of _ (by rw [List.length_set]) rfl), trivial⟩
                    exact AHs_nil
                  exact AHs_nil
                exact AHs_nil
              exact AHs_nil
            exact AHs_nil
          refine AHs_cons rfl rfl rfl (by decide) (OpT_run (Pu_idxS (r := 103) rfl Try.runUnderlying80 Try.sizeOf29 rfl rfl rfl (fun _ h => rowP_rd h) (by rw [hl4]; omega)) ⟨⟨rfl, ⟨rfl, ⟨rfl, trivial⟩⟩⟩, ?_⟩) ?_
          ·
            refine (AH_take 16 rfl (by kernel_rfl) (by kernel_rfl) (by kernel_rfl) rfl rfl (by decide) (Pu_sliceArrE rfl Try.runUnderlying29 Try.sizeOf5 rfl) (AH_ready [10] (by kernel_rfl) (by decide) ?_))
            refine AHs_cons rfl rfl rfl (by decide) (OpT_append (r := 104) (r2 := 103) rfl Try.underlying30 TI.hi5 TI.hz5 TI.hs5 TI.hby5 TI.hzs5 (by decide) rfl rfl rfl rfl (fun h hp => rdP_cast (rd_id (l := trB nm seed 0) (k := 2) (rowP_rd hp) hids (by rw [hl4]; omega)) rfl (leafT_length nm seed 0)) (bs_one _) (by unfold maxLen; omega) (by omega) (fun v54 => ?_)) ?_
            ·
              refine ⟨⟨rfl, ⟨rfl, ⟨rfl, trivial⟩⟩⟩, ?_⟩
              refine AH_turn (P' := rowB 5 v54 (leafT nm seed 0)) 104 rfl (fun h hp => rowB_mk hp (by simp [leafT_length]) (by simp [bs, trB])) ?_
              refine (AH_ready [17] (by kernel_rfl) (by decide) ?_)
              refine AHs_cons rfl rfl rfl (by decide) (OpT_append (r := 104) (r2 := 103) rfl Try.underlying30 TI.hi5 TI.hz5 TI.hs5 TI.hby5 TI.hzs5 (by decide) rfl rfl rfl rfl (fun h hp => rdP_cast (rd_id (l := trB nm seed 0) (k := 3) (rowP_rd hp) hids (by rw [hl4]; omega)) rfl (leafT_length nm seed 1)) (bs_one _) (by unfold maxLen; rw [leafT_length]; omega) (by rw [leafT_length]; omega) (fun v61 => ?_)) ?_
              ·
                refine ⟨⟨rfl, ⟨rfl, ⟨rfl, trivial⟩⟩⟩, ?_⟩
                refine AH_turn (P' := rowB 5 v61 (leafT nm seed 0 ++ leafT nm seed 1)) 104 rfl (fun h hp => rowB_mk hp (by simp [leafT_length]) (by rw [bs_append]; rfl)) ?_
                refine (AH_ready [18] (by kernel_rfl) (by decide) ?_)
                refine AHs_cons rfl rfl rfl (by decide) (OpT_call 200 [0, 101, 102, 103, 104] [] rfl Try.call53 rfl rfl rfl (by decide) (by decide) (node6_spec nm hn 1 131 v61 (leafT nm seed 0 ++ leafT nm seed 1) (by rw [List.length_append, leafT_length, leafT_length]; omega) _ (rd_star 4 rfl rowB_rd)) (fun v62 Ps62 hR62 => ?_)) ?_
                ·
                  obtain ⟨rfl, rfl⟩ := hR62
                  refine ⟨⟨rfl, ⟨rfl, ⟨rfl, trivial⟩⟩⟩, ?_⟩
                  refine (AH_ready [19] (by kernel_rfl) (by decide) ?_)
                  refine AHs_cons rfl rfl rfl (by decide) (OpT_run (Pu_idxS (r := 103) rfl Try.runUnderlying80 Try.sizeOf29 rfl rfl rfl (fun _ h => rowP_rd h) (by rw [hl4]; omega)) ⟨⟨rfl, ⟨rfl, ⟨rfl, trivial⟩⟩⟩, ?_⟩) ?_
                  ·
                    refine (AH_ready [20] (by kernel_rfl) (by decide) ?_)
                    refine AHs_cons0 rfl rfl rfl (OpT_storeS (r := 103) rfl (sz_id (topT_length nm seed)) rfl rfl rfl (show 0 < (bs (topT nm seed)).length by rw [bs_length, topT_length]; decide) (by rw [idsC_length hids, hl4]; show _ + (bs (topT nm seed)).length ≤ _; rw [bs_length, topT_length]; decide) (bs_one _) (show over (idsC (trB nm seed 0)) (1 * 32) (bs (topT nm seed)) = _ from idsC_set hids (by rw [hl4]; omega) (topT_length _ _)) ?_) ?_
                    ·
                      refine ⟨⟨rfl, ⟨rfl, ⟨rfl, trivial⟩⟩⟩, ?_⟩
                      refine (AH_done (by kernel_rfl) (X_block (X_then ?_)))
                      refine W.pre (K' := [(3, _), (4, _), (7, _), (8, _), (11, _), (41, _)]) (L' := [(0, _), (101, _), (102, _), (103, _), (104, _)]) ?_ ⟨rfl, ⟨rfl, ⟨rfl, ⟨rfl, ⟨rfl, ⟨rfl, trivial⟩⟩⟩⟩⟩⟩ ⟨rfl, ⟨rfl, ⟨rfl, ⟨rfl, ⟨rfl, trivial⟩⟩⟩⟩⟩
                      refine W_regL (WL_pure rfl rfl (by decide) (Pu_move rfl rfl) (WL_pure rfl rfl (by decide) (Pu_bin rfl rfl rfl (run_sub _ _ _ _ _ (by omega))) (WL_pure rfl rfl (by decide) (Pu_assign rfl rfl) (WL_nil ?_))))
                      exact X_round 1 (by omega) (by omega) ⟨rfl, rfl, rfl, rfl, lookV_eq rfl (int_eq (by omega)), trivial⟩ ⟨rfl, rfl, rfl, look_eq rfl (by rw [← trB_set nm seed]; exact rowI_of _ (by rw [List.length_set]) rfl), trivial⟩
                    exact AHs_nil
                  exact AHs_nil
                exact AHs_nil
              exact AHs_nil
            exact AHs_nil
          exact AHs_nil
        refine AHs_cons rfl rfl rfl (by decide) (OpT_run (Pu_idxS (r := 103) rfl Try.runUnderlying80 Try.sizeOf29 rfl rfl rfl (fun _ h => rowP_rd h) (by rw [hl4]; omega)) ⟨⟨rfl, ⟨rfl, ⟨rfl, trivial⟩⟩⟩, ?_⟩) ?_
        ·
          refine (AH_take 16 rfl (by kernel_rfl) (by kernel_rfl) (by kernel_rfl) rfl rfl (by decide) (Pu_sliceArrE rfl Try.runUnderlying29 Try.sizeOf5 rfl) (AH_ready [8] (by kernel_rfl) (by decide) ?_))
          refine AHs_cons rfl rfl rfl (by decide) (OpT_run (Pu_idxS (r := 103) rfl Try.runUnderlying80 Try.sizeOf29 rfl rfl rfl (fun _ h => rowP_rd h) (by rw [hl4]; omega)) ⟨⟨rfl, ⟨rfl, ⟨rfl, trivial⟩⟩⟩, ?_⟩) ?_
          ·
            refine (AH_take 9 rfl (by kernel_rfl) (by kernel_rfl) (by kernel_rfl) rfl rfl (by decide) (Pu_sliceArrE rfl Try.runUnderlying29 Try.sizeOf5 rfl) (AH_ready [10] (by kernel_rfl) (by decide) ?_))
            refine AHs_cons rfl rfl rfl (by decide) (OpT_append (r := 104) (r2 := 103) rfl Try.underlying30 TI.hi5 TI.hz5 TI.hs5 TI.hby5 TI.hzs5 (by decide) rfl rfl rfl rfl (fun h hp => rdP_cast (rd_id (l := trB nm seed 0) (k := 2) (rowP_rd hp) hids (by rw [hl4]; omega)) rfl (leafT_length nm seed 0)) (bs_one _) (by unfold maxLen; omega) (by omega) (fun v54 => ?_)) ?_
            ·
              refine ⟨⟨rfl, ⟨rfl, ⟨rfl, trivial⟩⟩⟩, ?_⟩
              refine AH_turn (P' := rowB 5 v54 (leafT nm seed 0)) 104 rfl (fun h hp => rowB_mk hp (by simp [leafT_length]) (by simp [bs, trB])) ?_
              refine (AH_ready [17] (by kernel_rfl) (by decide) ?_)
              refine AHs_cons rfl rfl rfl (by decide) (OpT_append (r := 104) (r2 := 103) rfl Try.underlying30 TI.hi5 TI.hz5 TI.hs5 TI.hby5 TI.hzs5 (by decide) rfl rfl rfl rfl (fun h hp => rdP_cast (rd_id (l := trB nm seed 0) (k := 3) (rowP_rd hp) hids (by rw [hl4]; omega)) rfl (leafT_length nm seed 1)) (bs_one _) (by unfold maxLen; rw [leafT_length]; omega) (by rw [leafT_length]; omega) (fun v61 => ?_)) ?_
              ·
                refine ⟨⟨rfl, ⟨rfl, ⟨rfl, trivial⟩⟩⟩, ?_⟩
                refine AH_turn (P' := rowB 5 v61 (leafT nm seed 0 ++ leafT nm seed 1)) 104 rfl (fun h hp => rowB_mk hp (by simp [leafT_length]) (by rw [bs_append]; rfl)) ?_
                refine (AH_ready [18] (by kernel_rfl) (by decide) ?_)
                refine AHs_cons rfl rfl rfl (by decide) (OpT_call 200 [0, 101, 102, 103, 104] [] rfl Try.call53 rfl rfl rfl (by decide) (by decide) (node6_spec nm hn 1 131 v61 (leafT nm seed 0 ++ leafT nm seed 1) (by rw [List.length_append, leafT_length, leafT_length]; omega) _ (rd_star 4 rfl rowB_rd)) (fun v62 Ps62 hR62 => ?_)) ?_
                ·
                  obtain ⟨rfl, rfl⟩ := hR62
                  refine ⟨⟨rfl, ⟨rfl, ⟨rfl, trivial⟩⟩⟩, ?_⟩
                  refine (AH_ready [19] (by kernel_rfl) (by decide) ?_)
                  refine AHs_cons rfl rfl rfl (by decide) (OpT_run (Pu_idxS (r := 103) rfl Try.runUnderlying80 Try.sizeOf29 rfl rfl rfl (fun _ h => rowP_rd h) (by rw [hl4]; omega)) ⟨⟨rfl, ⟨rfl, ⟨rfl, trivial⟩⟩⟩, ?_⟩) ?_
                  ·
                    refine (AH_ready [20] (by kernel_rfl) (by decide) ?_)
                    refine AHs_cons0 rfl rfl rfl (OpT_storeS (r := 103) rfl (sz_id (topT_length nm seed)) rfl rfl rfl (show 0 < (bs (topT nm seed)).length by rw [bs_length, topT_length]; decide) (by rw [idsC_length hids, hl4]; show _ + (bs (topT nm seed)).length ≤ _; rw [bs_length, topT_length]; decide) (bs_one _) (show over (idsC (trB nm seed 0)) (1 * 32) (bs (topT nm seed)) = _ from idsC_set hids (by rw [hl4]; omega) (topT_length _ _)) ?_) ?_
                    ·
                      refine ⟨⟨rfl, ⟨rfl, ⟨rfl, trivial⟩⟩⟩, ?_⟩
                      refine (AH_done (by kernel_rfl) (X_block (X_then ?_)))
                      refine W.pre (K' := [(3, _), (4, _), (7, _), (8, _), (11, _), (41, _)]) (L' := [(0, _), (101, _), (102, _), (103, _), (104, _)]) ?_ ⟨rfl, ⟨rfl, ⟨rfl, ⟨rfl, ⟨rfl, ⟨rfl, trivial⟩⟩⟩⟩⟩⟩ ⟨rfl, ⟨rfl, ⟨rfl, ⟨rfl, ⟨rfl, trivial⟩⟩⟩⟩⟩
                      refine W_regL (WL_pure rfl rfl (by decide) (Pu_move rfl rfl) (WL_pure rfl rfl (by decide) (Pu_bin rfl rfl rfl (run_sub _ _ _ _ _ (by omega))) (WL_pure rfl rfl (by decide) (Pu_assign rfl rfl) (WL_nil ?_))))
                      exact X_round 1 (by omega) (by omega) ⟨rfl, rfl, rfl, rfl, lookV_eq rfl (int_eq (by omega)), trivial⟩ ⟨rfl, rfl, rfl, look_eq rfl (by rw [← trB_set nm seed]; exact rowI_of _ (by rw [List.length_set]) rfl), trivial⟩
                    exact AHs_nil
                  exact AHs_nil
                exact AHs_nil
              exact AHs_nil
            exact AHs_nil
          exact AHs_nil
        exact AHs_nil
      refine AHs_cons rfl rfl rfl (by decide) (OpT_run (Pu_idxS (r := 103) rfl Try.runUnderlying80 Try.sizeOf29 rfl rfl rfl (fun _ h => rowP_rd h) (by rw [hl4]; omega)) ⟨⟨rfl, ⟨rfl, ⟨rfl, trivial⟩⟩⟩, ?_⟩) ?_
      ·
        refine (AH_take 9 rfl (by kernel_rfl) (by kernel_rfl) (by kernel_rfl) rfl rfl (by decide) (Pu_sliceArrE rfl Try.runUnderlying29 Try.sizeOf5 rfl) (AH_ready [4, 15] (by kernel_rfl) (by decide) ?_))
        refine AHs_cons rfl rfl rfl (by decide) (OpT_buildOnes (r := 104) (bs []) rfl rfl Try.runUnderlying30 Try.sizeOf5 Try.zeroValue5 rfl rfl (by decide) rfl (bs_cells _) (fun v48 => ⟨⟨rfl, ⟨rfl, ⟨rfl, trivial⟩⟩⟩, ?_⟩)) ?_
        ·
          refine (AH_ready [10, 15] (by kernel_rfl) (by decide) ?_)
          refine AHs_cons rfl rfl rfl (by decide) (OpT_append (r := 104) (r2 := 103) rfl Try.underlying30 TI.hi5 TI.hz5 TI.hs5 TI.hby5 TI.hzs5 (by decide) rfl rfl rfl rfl (fun h hp => rdP_cast (rd_id (l := trB nm seed 0) (k := 2) (rowP_rd hp) hids (by rw [hl4]; omega)) rfl (leafT_length nm seed 0)) (bs_one _) (by unfold maxLen; omega) (by omega) (fun v54 => ?_)) ?_
          ·
            refine ⟨⟨rfl, ⟨rfl, ⟨rfl, trivial⟩⟩⟩, ?_⟩
            refine AH_turn (P' := rowB 5 v54 (leafT nm seed 0)) 104 rfl (fun h hp => rowB_mk hp (by simp [leafT_length]) (by simp [bs, trB])) ?_
            refine (AH_ready [15] (by kernel_rfl) (by decide) ?_)
            refine AHs_cons rfl rfl rfl (by decide) (OpT_run (Pu_idxS (r := 103) rfl Try.runUnderlying80 Try.sizeOf29 rfl rfl rfl (fun _ h => rowP_rd h) (by rw [hl4]; omega)) ⟨⟨rfl, ⟨rfl, ⟨rfl, trivial⟩⟩⟩, ?_⟩) ?_
            ·
              refine (AH_take 16 rfl (by kernel_rfl) (by kernel_rfl) (by kernel_rfl) rfl rfl (by decide) (Pu_sliceArrE rfl Try.runUnderlying29 Try.sizeOf5 rfl) (AH_ready [17] (by kernel_rfl) (by decide) ?_))
              refine AHs_cons rfl rfl rfl (by decide) (OpT_append (r := 104) (r2 := 103) rfl Try.underlying30 TI.hi5 TI.hz5 TI.hs5 TI.hby5 TI.hzs5 (by decide) rfl rfl rfl rfl (fun h hp => rdP_cast (rd_id (l := trB nm seed 0) (k := 3) (rowP_rd hp) hids (by rw [hl4]; omega)) rfl (leafT_length nm seed 1)) (bs_one _) (by unfold maxLen; rw [leafT_length]; omega) (by rw [leafT_length]; omega) (fun v61 => ?_)) ?_
              ·
                refine ⟨⟨rfl, ⟨rfl, ⟨rfl, trivial⟩⟩⟩, ?_⟩
                refine AH_turn (P' := rowB 5 v61 (leafT nm seed 0 ++ leafT nm seed 1)) 104 rfl (fun h hp => rowB_mk hp (by simp [leafT_length]) (by rw [bs_append]; rfl)) ?_
                refine (AH_ready [18] (by kernel_rfl) (by decide) ?_)
                refine AHs_cons rfl rfl rfl (by decide) (OpT_call 200 [0, 101, 102, 103, 104] [] rfl Try.call53 rfl rfl rfl (by decide) (by decide) (node6_spec nm hn 1 131 v61 (leafT nm seed 0 ++ leafT nm seed 1) (by rw [List.length_append, leafT_length, leafT_length]; omega) _ (rd_star 4 rfl rowB_rd)) (fun v62 Ps62 hR62 => ?_)) ?_
                ·
                  obtain ⟨rfl, rfl⟩ := hR62
                  refine ⟨⟨rfl, ⟨rfl, ⟨rfl, trivial⟩⟩⟩, ?_⟩
                  refine (AH_ready [19] (by kernel_rfl) (by decide) ?_)
                  refine AHs_cons rfl rfl rfl (by decide) (OpT_run (Pu_idxS (r := 103) rfl Try.runUnderlying80 Try.sizeOf29 rfl rfl rfl (fun _ h => rowP_rd h) (by rw [hl4]; omega)) ⟨⟨rfl, ⟨rfl, ⟨rfl, trivial⟩⟩⟩, ?_⟩) ?_
                  ·
                    refine (AH_ready [20] (by kernel_rfl) (by decide) ?_)
                    refine AHs_cons0 rfl rfl rfl (OpT_storeS (r := 103) rfl (sz_id (topT_length nm seed)) rfl rfl rfl (show 0 < (bs (topT nm seed)).length by rw [bs_length, topT_length]; decide) (by rw [idsC_length hids, hl4]; show _ + (bs (topT nm seed)).length ≤ _; rw [bs_length, topT_length]; decide) (bs_one _) (show over (idsC (trB nm seed 0)) (1 * 32) (bs (topT nm seed)) = _ from idsC_set hids (by rw [hl4]; omega) (topT_length _ _)) ?_) ?_
                    ·
                      refine ⟨⟨rfl, ⟨rfl, ⟨rfl, trivial⟩⟩⟩, ?_⟩
                      refine (AH_done (by kernel_rfl) (X_block (X_then ?_)))
                      refine W.pre (K' := [(3, _), (4, _), (7, _), (8, _), (11, _), (41, _)]) (L' := [(0, _), (101, _), (102, _), (103, _), (104, _)]) ?_ ⟨rfl, ⟨rfl, ⟨rfl, ⟨rfl, ⟨rfl, ⟨rfl, trivial⟩⟩⟩⟩⟩⟩ ⟨rfl, ⟨rfl, ⟨rfl, ⟨rfl, ⟨rfl, trivial⟩⟩⟩⟩⟩
                      refine W_regL (WL_pure rfl rfl (by decide) (Pu_move rfl rfl) (WL_pure rfl rfl (by decide) (Pu_bin rfl rfl rfl (run_sub _ _ _ _ _ (by omega))) (WL_pure rfl rfl (by decide) (Pu_assign rfl rfl) (WL_nil ?_))))
                      exact X_round 1 (by omega) (by omega) ⟨rfl, rfl, rfl, rfl, lookV_eq rfl (int_eq (by omega)), trivial⟩ ⟨rfl, rfl, rfl, look_eq rfl (by rw [← trB_set nm seed]; exact rowI_of _ (by rw [List.length_set]) rfl), trivial⟩
                    exact AHs_nil
                  exact AHs_nil
                exact AHs_nil
              exact AHs_nil
            exact AHs_nil
          refine AHs_cons rfl rfl rfl (by decide) (OpT_run (Pu_idxS (r := 103) rfl Try.runUnderlying80 Try.sizeOf29 rfl rfl rfl (fun _ h => rowP_rd h) (by rw [hl4]; omega)) ⟨⟨rfl, ⟨rfl, ⟨rfl, trivial⟩⟩⟩, ?_⟩) ?_
          ·
            refine (AH_take 16 rfl (by kernel_rfl) (by kernel_rfl) (by kernel_rfl) rfl rfl (by decide) (Pu_sliceArrE rfl Try.runUnderlying29 Try.sizeOf5 rfl) (AH_ready [10] (by kernel_rfl) (by decide) ?_))
            refine AHs_cons rfl rfl rfl (by decide) (OpT_append (r := 104) (r2 := 103) rfl Try.underlying30 TI.hi5 TI.hz5 TI.hs5 TI.hby5 TI.hzs5 (by decide) rfl rfl rfl rfl (fun h hp => rdP_cast (rd_id (l := trB nm seed 0) (k := 2) (rowP_rd hp) hids (by rw [hl4]; omega)) rfl (leafT_length nm seed 0)) (bs_one _) (by unfold maxLen; omega) (by omega) (fun v54 => ?_)) ?_
            ·
              refine ⟨⟨rfl, ⟨rfl, ⟨rfl, trivial⟩⟩⟩, ?_⟩
              refine AH_turn (P' := rowB 5 v54 (leafT nm seed 0)) 104 rfl (fun h hp => rowB_mk hp (by simp [leafT_length]) (by simp [bs, trB])) ?_
              refine (AH_ready [17] (by kernel_rfl) (by decide) ?_)
              refine AHs_cons rfl rfl rfl (by decide) (OpT_append (r := 104) (r2 := 103) rfl Try.underlying30 TI.hi5 TI.hz5 TI.hs5 TI.hby5 TI.hzs5 (by decide) rfl rfl rfl rfl (fun h hp => rdP_cast (rd_id (l := trB nm seed 0) (k := 3) (rowP_rd hp) hids (by rw [hl4]; omega)) rfl (leafT_length nm seed 1)) (bs_one _) (by unfold maxLen; rw [leafT_length]; omega) (by rw [leafT_length]; omega) (fun v61 => ?_)) ?_
              ·
                refine ⟨⟨rfl, ⟨rfl, ⟨rfl, trivial⟩⟩⟩, ?_⟩
                refine AH_turn (P' := rowB 5 v61 (leafT nm seed 0 ++ leafT nm seed 1)) 104 rfl (fun h hp => rowB_mk hp (by simp [leafT_length]) (by rw [bs_append]; rfl)) ?_
                refine (AH_ready [18] (by kernel_rfl) (by decide) ?_)
                refine AHs_cons rfl rfl rfl (by decide) (OpT_call 200 [0, 101, 102, 103, 104] [] rfl Try.call53 rfl rfl rfl (by decide) (by decide) (node6_spec nm hn 1 131 v61 (leafT nm seed 0 ++ leafT nm seed 1) (by rw [List.length_append, leafT_length, leafT_length]; omega) _ (rd_star 4 rfl rowB_rd)) (fun v62 Ps62 hR62 => ?_)) ?_
                ·
                  obtain ⟨rfl, rfl⟩ := hR62
                  refine ⟨⟨rfl, ⟨rfl, ⟨rfl, trivial⟩⟩⟩, ?_⟩
                  refine (AH_ready [19] (by kernel_rfl) (by decide) ?_)
                  refine AHs_cons rfl rfl rfl (by decide) (OpT_run (Pu_idxS (r := 103) rfl Try.runUnderlying80 Try.sizeOf29 rfl rfl rfl (fun _ h => rowP_rd h) (by rw [hl4]; omega)) ⟨⟨rfl, ⟨rfl, ⟨rfl, trivial⟩⟩⟩, ?_⟩) ?_
                  ·
                    refine (AH_ready [20] (by kernel_rfl) (by decide) ?_)
                    refine AHs_cons0 rfl rfl rfl (OpT_storeS (r := 103) rfl (sz_id (topT_length nm seed)) rfl rfl rfl (show 0 < (bs (topT nm seed)).length by rw [bs_length, topT_length]; decide) (by rw [idsC_length hids, hl4]; show _ + (bs (topT nm seed)).length ≤ _; rw [bs_length, topT_length]; decide) (bs_one _) (show over (idsC (trB nm seed 0)) (1 * 32) (bs (topT nm seed)) = _ from idsC_set hids (by rw [hl4]; omega) (topT_length _ _)) ?_) ?_
                    ·
                      refine ⟨⟨rfl, ⟨rfl, ⟨rfl, trivial⟩⟩⟩, ?_⟩
                      refine (AH_done (by kernel_rfl) (X_block (X_then ?_)))
                      refine W.pre (K' := [(3, _), (4, _), (7, _), (8, _), (11, _), (41, _)]) (L' := [(0, _), (101, _), (102, _), (103, _), (104, _)]) ?_ ⟨rfl, ⟨rfl, ⟨rfl, ⟨rfl, ⟨rfl, ⟨rfl, trivial⟩⟩⟩⟩⟩⟩ ⟨rfl, ⟨rfl, ⟨rfl, ⟨rfl, ⟨rfl, trivial⟩⟩⟩⟩⟩
                      refine W_regL (WL_pure rfl rfl (by decide) (Pu_move rfl rfl) (WL_pure rfl rfl (by decide) (Pu_bin rfl rfl rfl (run_sub _ _ _ _ _ (by omega))) (WL_pure rfl rfl (by decide) (Pu_assign rfl rfl) (WL_nil ?_))))
                      exact X_round 1 (by omega) (by omega) ⟨rfl, rfl, rfl, rfl, lookV_eq rfl (int_eq (by omega)), trivial⟩ ⟨rfl, rfl, rfl, look_eq rfl (by rw [← trB_set nm seed]; exact rowI_of _ (by rw [List.length_set]) rfl), trivial⟩
                    exact AHs_nil
                  exact AHs_nil
                exact AHs_nil
              exact AHs_nil
            exact AHs_nil
          exact AHs_nil
        refine AHs_cons rfl rfl rfl (by decide) (OpT_run (Pu_idxS (r := 103) rfl Try.runUnderlying80 Try.sizeOf29 rfl rfl rfl (fun _ h => rowP_rd h) (by rw [hl4]; omega)) ⟨⟨rfl, ⟨rfl, ⟨rfl, trivial⟩⟩⟩, ?_⟩) ?_
        ·
          refine (AH_take 16 rfl (by kernel_rfl) (by kernel_rfl) (by kernel_rfl) rfl rfl (by decide) (Pu_sliceArrE rfl Try.runUnderlying29 Try.sizeOf5 rfl) (AH_ready [4] (by kernel_rfl) (by decide) ?_))
          refine AHs_cons rfl rfl rfl (by decide) (OpT_buildOnes (r := 104) (bs []) rfl rfl Try.runUnderlying30 Try.sizeOf5 Try.zeroValue5 rfl rfl (by decide) rfl (bs_cells _) (fun v48 => ⟨⟨rfl, ⟨rfl, ⟨rfl, trivial⟩⟩⟩, ?_⟩)) ?_
          ·
            refine (AH_ready [10] (by kernel_rfl) (by decide) ?_)
            refine AHs_cons rfl rfl rfl (by decide) (OpT_append (r := 104) (r2 := 103) rfl Try.underlying30 TI.hi5 TI.hz5 TI.hs5 TI.hby5 TI.hzs5 (by decide) rfl rfl rfl rfl (fun h hp => rdP_cast (rd_id (l := trB nm seed 0) (k := 2) (rowP_rd hp) hids (by rw [hl4]; omega)) rfl (leafT_length nm seed 0)) (bs_one _) (by unfold maxLen; omega) (by omega) (fun v54 => ?_)) ?_
            ·
              refine ⟨⟨rfl, ⟨rfl, ⟨rfl, trivial⟩⟩⟩, ?_⟩
              refine AH_turn (P' := rowB 5 v54 (leafT nm seed 0)) 104 rfl (fun h hp => rowB_mk hp (by simp [leafT_length]) (by simp [bs, trB])) ?_
              refine (AH_ready [17] (by kernel_rfl) (by decide) ?_)
              refine AHs_cons rfl rfl rfl (by decide) (OpT_append (r := 104) (r2 := 103) rfl Try.underlying30 TI.hi5 TI.hz5 TI.hs5 TI.hby5 TI.hzs5 (by decide) rfl rfl rfl rfl (fun h hp => rdP_cast (rd_id (l := trB nm seed 0) (k := 3) (rowP_rd hp) hids (by rw [hl4]; omega)) rfl (leafT_length nm seed 1)) (bs_one _) (by unfold maxLen; rw [leafT_length]; omega) (by rw [leafT_length]; omega) (fun v61 => ?_)) ?_
              ·
                refine ⟨⟨rfl, ⟨rfl, ⟨rfl, trivial⟩⟩⟩, ?_⟩
                refine AH_turn (P' := rowB 5 v61 (leafT nm seed 0 ++ leafT nm seed 1)) 104 rfl (fun h hp => rowB_mk hp (by simp [leafT_length]) (by rw [bs_append]; rfl)) ?_
                refine (AH_ready [18] (by kernel_rfl) (by decide) ?_)
                refine AHs_cons rfl rfl rfl (by decide) (OpT_call 200 [0, 101, 102, 103, 104] [] rfl Try.call53 rfl rfl rfl (by decide) (by decide) (node6_spec nm hn 1 131 v61 (leafT nm seed 0 ++ leafT nm seed 1) (by rw [List.length_append, leafT_length, leafT_length]; omega) _ (rd_star 4 rfl rowB_rd)) (fun v62 Ps62 hR62 => ?_)) ?_
                ·
                  obtain ⟨rfl, rfl⟩ := hR62
                  refine ⟨⟨rfl, ⟨rfl, ⟨rfl, trivial⟩⟩⟩, ?_⟩
                  refine (AH_ready [19] (by kernel_rfl) (by decide) ?_)
                  refine AHs_cons rfl rfl rfl (by decide) (OpT_run (Pu_idxS (r := 103) rfl Try.runUnderlying80 Try.sizeOf29 rfl rfl rfl (fun _ h => rowP_rd h) (by rw [hl4]; omega)) ⟨⟨rfl, ⟨rfl, ⟨rfl, trivial⟩⟩⟩, ?_⟩) ?_
                  ·
                    refine (AH_ready [20] (by kernel_rfl) (by decide) ?_)
                    refine AHs_cons0 rfl rfl rfl (OpT_storeS (r := 103) rfl (sz_id (topT_length nm seed)) rfl rfl rfl (show 0 < (bs (topT nm seed)).length by rw [bs_length, topT_length]; decide) (by rw [idsC_length hids, hl4]; show _ + (bs (topT nm seed)).length ≤ _; rw [bs_length, topT_length]; decide) (bs_one _) (show over (idsC (trB nm seed 0)) (1 * 32) (bs (topT nm seed)) = _ from idsC_set hids (by rw [hl4]; omega) (topT_length _ _)) ?_) ?_
                    ·
                      refine ⟨⟨rfl, ⟨rfl, ⟨rfl, trivial⟩⟩⟩, ?_⟩
                      refine (AH_done (by kernel_rfl) (X_block (X_then ?_)))
                      refine W.pre (K' := [(3, _), (4, _), (7, _), (8, _), (11, _), (41, _)]) (L' := [(0, _), (101, _), (102, _), (103, _), (104, _)]) ?_ ⟨rfl, ⟨rfl, ⟨rfl, ⟨rfl, ⟨rfl, ⟨rfl, trivial⟩⟩⟩⟩⟩⟩ ⟨rfl, ⟨rfl, ⟨rfl, ⟨rfl, ⟨rfl, trivial⟩⟩⟩⟩⟩
                      refine W_regL (WL_pure rfl rfl (by decide) (Pu_move rfl rfl) (WL_pure rfl rfl (by decide) (Pu_bin rfl rfl rfl (run_sub _ _ _ _ _ (by omega))) (WL_pure rfl rfl (by decide) (Pu_assign rfl rfl) (WL_nil ?_))))
                      exact X_round 1 (by omega) (by omega) ⟨rfl, rfl, rfl, rfl, lookV_eq rfl (int_eq (by omega)), trivial⟩ ⟨rfl, rfl, rfl, look_eq rfl (by rw [← trB_set nm seed]; exact rowI_of _ (by rw [List.length_set]) rfl), trivial⟩
                    exact AHs_nil
                  exact AHs_nil
                exact AHs_nil
              exact AHs_nil
            exact AHs_nil
          exact AHs_nil
        exact AHs_nil
      refine AHs_cons rfl rfl rfl (by decide) (OpT_run (Pu_idxS (r := 103) rfl Try.runUnderlying80 Try.sizeOf29 rfl rfl rfl (fun _ h => rowP_rd h) (by rw [hl4]; omega)) ⟨⟨rfl, ⟨rfl, ⟨rfl, trivial⟩⟩⟩, ?_⟩) ?_
      ·
        refine (AH_take 16 rfl (by kernel_rfl) (by kernel_rfl) (by kernel_rfl) rfl rfl (by decide) (Pu_sliceArrE rfl Try.runUnderlying29 Try.sizeOf5 rfl) (AH_ready [4, 8] (by kernel_rfl) (by decide) ?_))
        refine AHs_cons rfl rfl rfl (by decide) (OpT_buildOnes (r := 104) (bs []) rfl rfl Try.runUnderlying30 Try.sizeOf5 Try.zeroValue5 rfl rfl (by decide) rfl (bs_cells _) (fun v48 => ⟨⟨rfl, ⟨rfl, ⟨rfl, trivial⟩⟩⟩, ?_⟩)) ?_
        ·
          refine (AH_ready [8] (by kernel_rfl) (by decide) ?_)
          refine AHs_cons rfl rfl rfl (by decide) (OpT_run (Pu_idxS (r := 103) rfl Try.runUnderlying80 Try.sizeOf29 rfl rfl rfl (fun _ h => rowP_rd h) (by rw [hl4]; omega)) ⟨⟨rfl, ⟨rfl, ⟨rfl, trivial⟩⟩⟩, ?_⟩) ?_
          ·
            refine (AH_take 9 rfl (by kernel_rfl) (by kernel_rfl) (by kernel_rfl) rfl rfl (by decide) (Pu_sliceArrE rfl Try.runUnderlying29 Try.sizeOf5 rfl) (AH_ready [10] (by kernel_rfl) (by decide) ?_))
            refine AHs_cons rfl rfl rfl (by decide) (OpT_append (r := 104) (r2 := 103) rfl Try.underlying30 TI.hi5 TI.hz5 TI.hs5 TI.hby5 TI.hzs5 (by decide) rfl rfl rfl rfl (fun h hp => rdP_cast (rd_id (l := trB nm seed 0) (k := 2) (rowP_rd hp) hids (by rw [hl4]; omega)) rfl (leafT_length nm seed 0)) (bs_one _) (by unfold maxLen; omega) (by omega) (fun v54 => ?_)) ?_
            ·
              refine ⟨⟨rfl, ⟨rfl, ⟨rfl, trivial⟩⟩⟩, ?_⟩
              refine AH_turn (P' := rowB 5 v54 (leafT nm seed 0)) 104 rfl (fun h hp => rowB_mk hp (by simp [leafT_length]) (by simp [bs, trB])) ?_
              refine (AH_ready [17] (by kernel_rfl) (by decide) ?_)
              refine AHs_cons rfl rfl rfl (by decide) (OpT_append (r := 104) (r2 := 103) rfl Try.underlying30 TI.hi5 TI.hz5 TI.hs5 TI.hby5 TI.hzs5 (by decide) rfl rfl rfl rfl (fun h hp => rdP_cast (rd_id (l := trB nm seed 0) (k := 3) (rowP_rd hp) hids (by rw [hl4]; omega)) rfl (leafT_length nm seed 1)) (bs_one _) (by unfold maxLen; rw [leafT_length]; omega) (by rw [leafT_length]; omega) (fun v61 => ?_)) ?_
              ·
                refine ⟨⟨rfl, ⟨rfl, ⟨rfl, trivial⟩⟩⟩, ?_⟩
                refine AH_turn (P' := rowB 5 v61 (leafT nm seed 0 ++ leafT nm seed 1)) 104 rfl (fun h hp => rowB_mk hp (by simp [leafT_length]) (by rw [bs_append]; rfl)) ?_
                refine (AH_ready [18] (by kernel_rfl) (by decide) ?_)
                refine AHs_cons rfl rfl rfl (by decide) (OpT_call 200 [0, 101, 102, 103, 104] [] rfl Try.call53 rfl rfl rfl (by decide) (by decide) (node6_spec nm hn 1 131 v61 (leafT nm seed 0 ++ leafT nm seed 1) (by rw [List.length_append, leafT_length, leafT_length]; omega) _ (rd_star 4 rfl rowB_rd)) (fun v62 Ps62 hR62 => ?_)) ?_
                ·
                  obtain ⟨rfl, rfl⟩ := hR62
                  refine ⟨⟨rfl, ⟨rfl, ⟨rfl, trivial⟩⟩⟩, ?_⟩
                  refine (AH_ready [19] (by kernel_rfl) (by decide) ?_)
                  refine AHs_cons rfl rfl rfl (by decide) (OpT_run (Pu_idxS (r := 103) rfl Try.runUnderlying80 Try.sizeOf29 rfl rfl rfl (fun _ h => rowP_rd h) (by rw [hl4]; omega)) ⟨⟨rfl, ⟨rfl, ⟨rfl, trivial⟩⟩⟩, ?_⟩) ?_
                  ·
                    refine (AH_ready [20] (by kernel_rfl) (by decide) ?_)
                    refine AHs_cons0 rfl rfl rfl (OpT_storeS (r := 103) rfl (sz_id (topT_length nm seed)) rfl rfl rfl (show 0 < (bs (topT nm seed)).length by rw [bs_length, topT_length]; decide) (by rw [idsC_length hids, hl4]; show _ + (bs (topT nm seed)).length ≤ _; rw [bs_length, topT_length]; decide) (bs_one _) (show over (idsC (trB nm seed 0)) (1 * 32) (bs (topT nm seed)) = _ from idsC_set hids (by rw [hl4]; omega) (topT_length _ _)) ?_) ?_
                    ·
                      refine ⟨⟨rfl, ⟨rfl, ⟨rfl, trivial⟩⟩⟩, ?_⟩
                      refine (AH_done (by kernel_rfl) (X_block (X_then ?_)))
                      refine W.pre (K' := [(3, _), (4, _), (7, _), (8, _), (11, _), (41, _)]) (L' := [(0, _), (101, _), (102, _), (103, _), (104, _)]) ?_ ⟨rfl, ⟨rfl, ⟨rfl, ⟨rfl, ⟨rfl, ⟨rfl, trivial⟩⟩⟩⟩⟩⟩ ⟨rfl, ⟨rfl, ⟨rfl, ⟨rfl, ⟨rfl, trivial⟩⟩⟩⟩⟩
                      refine W_regL (WL_pure rfl rfl (by decide) (Pu_move rfl rfl) (WL_pure rfl rfl (by decide) (Pu_bin rfl rfl rfl (run_sub _ _ _ _ _ (by omega))) (WL_pure rfl rfl (by decide) (Pu_assign rfl rfl) (WL_nil ?_))))
                      exact X_round 1 (by omega) (by omega) ⟨rfl, rfl, rfl, rfl, lookV_eq rfl (int_eq (by omega)), trivial⟩ ⟨rfl, rfl, rfl, look_eq rfl (by rw [← trB_set nm seed]; exact rowI_of _ (by rw [List.length_set]) rfl), trivial⟩
                    exact AHs_nil
                  exact AHs_nil
                exact AHs_nil
              exact AHs_nil
            exact AHs_nil
          exact AHs_nil
        refine AHs_cons rfl rfl rfl (by decide) (OpT_run (Pu_idxS (r := 103) rfl Try.runUnderlying80 Try.sizeOf29 rfl rfl rfl (fun _ h => rowP_rd h) (by rw [hl4]; omega)) ⟨⟨rfl, ⟨rfl, ⟨rfl, trivial⟩⟩⟩, ?_⟩) ?_
        ·
          refine (AH_take 9 rfl (by kernel_rfl) (by kernel_rfl) (by kernel_rfl) rfl rfl (by decide) (Pu_sliceArrE rfl Try.runUnderlying29 Try.sizeOf5 rfl) (AH_ready [4] (by kernel_rfl) (by decide) ?_))
          refine AHs_cons rfl rfl rfl (by decide) (OpT_buildOnes (r := 104) (bs []) rfl rfl Try.runUnderlying30 Try.sizeOf5 Try.zeroValue5 rfl rfl (by decide) rfl (bs_cells _) (fun v48 => ⟨⟨rfl, ⟨rfl, ⟨rfl, trivial⟩⟩⟩, ?_⟩)) ?_
          ·
            refine (AH_ready [10] (by kernel_rfl) (by decide) ?_)
            refine AHs_cons rfl rfl rfl (by decide) (OpT_append (r := 104) (r2 := 103) rfl Try.underlying30 TI.hi5 TI.hz5 TI.hs5 TI.hby5 TI.hzs5 (by decide) rfl rfl rfl rfl (fun h hp => rdP_cast (rd_id (l := trB nm seed 0) (k := 2) (rowP_rd hp) hids (by rw [hl4]; omega)) rfl (leafT_length nm seed 0)) (bs_one _) (by unfold maxLen; omega) (by omega) (fun v54 => ?_)) ?_
            ·
              refine ⟨⟨rfl, ⟨rfl, ⟨rfl, trivial⟩⟩⟩, ?_⟩
              refine AH_turn (P' := rowB 5 v54 (leafT nm seed 0)) 104 rfl (fun h hp => rowB_mk hp (by simp [leafT_length]) (by simp [bs, trB])) ?_
              refine (AH_ready [17] (by kernel_rfl) (by decide) ?_)
              refine AHs_cons rfl rfl rfl (by decide) (OpT_append (r := 104) (r2 := 103) rfl Try.underlying30 TI.hi5 TI.hz5 TI.hs5 TI.hby5 TI.hzs5 (by decide) rfl rfl rfl rfl (fun h hp => rdP_cast (rd_id (l := trB nm seed 0) (k := 3) (rowP_rd hp) hids (by rw [hl4]; omega)) rfl (leafT_length nm seed 1)) (bs_one _) (by unfold maxLen; rw [leafT_length]; omega) (by rw [leafT_length]; omega) (fun v61 => ?_)) ?_
              ·
                refine ⟨⟨rfl, ⟨rfl, ⟨rfl, trivial⟩⟩⟩, ?_⟩
                refine AH_turn (P' := rowB 5 v61 (leafT nm seed 0 ++ leafT nm seed 1)) 104 rfl (fun h hp => rowB_mk hp (by simp [leafT_length]) (by rw [bs_append]; rfl)) ?_
                refine (AH_ready [18] (by kernel_rfl) (by decide) ?_)
                refine AHs_cons rfl rfl rfl (by decide) (OpT_call 200 [0, 101, 102, 103, 104] [] rfl Try.call53 rfl rfl rfl (by decide) (by decide) (node6_spec nm hn 1 131 v61 (leafT nm seed 0 ++ leafT nm seed 1) (by rw [List.length_append, leafT_length, leafT_length]; omega) _ (rd_star 4 rfl rowB_rd)) (fun v62 Ps62 hR62 => ?_)) ?_
                ·
                  obtain ⟨rfl, rfl⟩ := hR62
                  refine ⟨⟨rfl, ⟨rfl, ⟨rfl, trivial⟩⟩⟩, ?_⟩
                  refine (AH_ready [19] (by kernel_rfl) (by decide) ?_)
                  refine AHs_cons rfl rfl rfl (by decide) (OpT_run (Pu_idxS (r := 103) rfl Try.runUnderlying80 Try.sizeOf29 rfl rfl rfl (fun _ h => rowP_rd h) (by rw [hl4]; omega)) ⟨⟨rfl, ⟨rfl, ⟨rfl, trivial⟩⟩⟩, ?_⟩) ?_
                  ·
                    refine (AH_ready [20] (by kernel_rfl) (by decide) ?_)
                    refine AHs_cons0 rfl rfl rfl (OpT_storeS (r := 103) rfl (sz_id (topT_length nm seed)) rfl rfl rfl (show 0 < (bs (topT nm seed)).length by rw [bs_length, topT_length]; decide) (by rw [idsC_length hids, hl4]; show _ + (bs (topT nm seed)).length ≤ _; rw [bs_length, topT_length]; decide) (bs_one _) (show over (idsC (trB nm seed 0)) (1 * 32) (bs (topT nm seed)) = _ from idsC_set hids (by rw [hl4]; omega) (topT_length _ _)) ?_) ?_
                    ·
                      refine ⟨⟨rfl, ⟨rfl, ⟨rfl, trivial⟩⟩⟩, ?_⟩
                      refine (AH_done (by kernel_rfl) (X_block (X_then ?_)))
                      refine W.pre (K' := [(3, _), (4, _), (7, _), (8, _), (11, _), (41, _)]) (L' := [(0, _), (101, _), (102, _), (103, _), (104, _)]) ?_ ⟨rfl, ⟨rfl, ⟨rfl, ⟨rfl, ⟨rfl, ⟨rfl, trivial⟩⟩⟩⟩⟩⟩ ⟨rfl, ⟨rfl, ⟨rfl, ⟨rfl, ⟨rfl, trivial⟩⟩⟩⟩⟩
                      refine W_regL (WL_pure rfl rfl (by decide) (Pu_move rfl rfl) (WL_pure rfl rfl (by decide) (Pu_bin rfl rfl rfl (run_sub _ _ _ _ _ (by omega))) (WL_pure rfl rfl (by decide) (Pu_assign rfl rfl) (WL_nil ?_))))
                      exact X_round 1 (by omega) (by omega) ⟨rfl, rfl, rfl, rfl, lookV_eq rfl (int_eq (by omega)), trivial⟩ ⟨rfl, rfl, rfl, look_eq rfl (by rw [← trB_set nm seed]; exact rowI_of _ (by rw [List.length_set]) rfl), trivial⟩
                    exact AHs_nil
                  exact AHs_nil
                exact AHs_nil
              exact AHs_nil
            exact AHs_nil
          exact AHs_nil
        exact AHs_nil
      exact AHs_nil
    ·
      obtain rfl : x = 1 := by have := of_decide_eq_false hc41; omega
      refine W_exit (X_then_exit (X_then_exit (X_block_exit (X_then ?_))))
      refine W_seq ?_
      refine W.pre (K' := [(3, _), (4, _), (7, _), (8, _), (11, _), (41, _)]) (L' := [(0, _), (101, _), (102, _), (103, _)]) ?_ ⟨rfl, ⟨rfl, ⟨rfl, ⟨rfl, ⟨rfl, ⟨rfl, trivial⟩⟩⟩⟩⟩⟩ ⟨rfl, ⟨rfl, ⟨rfl, ⟨rfl, trivial⟩⟩⟩⟩
      refine W_regL (WL_pure rfl rfl (by decide) (Pu_move rfl rfl) (WL_pure rfl rfl (by decide) (Pu_assign rfl rfl) (WL_nil (X_then ?_))))
      refine W_ret ?_
      exact X_ret [103] (Ps := [_]) (res1 Try.results36 rfl) rfl (by decide) rfl
theorem public6_spec (nm : List UInt8) (hn : nm.length = 16) (seed : List UInt8) (hs : seed.length = 32) (F : HP) : CallsS Try.prog 17 #[idV nm, idV seed, .int .i64 1] F [] (fun r Ps => ∃ v, r = .tuple #[v, .int .i64 0] ∧ Ps = [rowB 5 v (pubT nm seed)]) := by
  refine callsS_enter Try.func17 rfl Try.ntmps17 (by simp) (fun E => ?_)
  refine W_seq ?_
  refine W.pre (K' := [(0, _), (1, _), (2, _)]) (L' := [(0, _)]) ?_ ⟨rfl, ⟨rfl, ⟨rfl, trivial⟩⟩⟩ ⟨rfl, trivial⟩
  refine W_regL (WL_cons rfl rfl (by decide) (OpT_box (r := 101) rfl rfl rfl (fun g101 => (WL_cons rfl rfl (by decide) (OpT_box (r := 102) rfl rfl rfl (fun g102 => (WL_pure rfl rfl (by decide) (Pu_assign rfl rfl) (WL_pure rfl rfl (by decide) (Pu_assign rfl rfl) (WL_nil (X_then ?_))))))))))
  refine W_seq ?_
  refine W_seq ?_
  refine W.pre (K' := [(0, _), (1, _), (2, _), (3, _), (4, _), (6, _), (7, _)]) (L' := [(0, _), (101, _), (102, _)]) ?_ ⟨rfl, ⟨rfl, ⟨rfl, ⟨rfl, ⟨rfl, ⟨rfl, ⟨rfl, trivial⟩⟩⟩⟩⟩⟩⟩ ⟨rfl, ⟨rfl, ⟨rfl, trivial⟩⟩⟩
  refine W_regL (WL_pure rfl rfl (by decide) (Pu_move rfl rfl) (WL_pure rfl rfl (by decide) (Pu_bin rfl rfl rfl (run_lss _ _ _ _ _ _)) (WL_pure rfl rfl (by decide) (Pu_move rfl rfl) (WL_guardP rfl rfl rfl rfl (by decide) (fun hb => (Pu_move rfl rfl)) (WL_guardP rfl rfl rfl rfl (by decide) (fun hb => (Pu_bin rfl (ev_gv rfl hb) rfl (run_gtr _ _ _ _ _ _))) (WL_pure rfl rfl (by decide) (Pu_or rfl rfl rfl) (WL_nil (X_then ?_))))))))
  refine W_false rfl (rfl) ?_
  refine W_skip (X_then ?_)
  refine W_seq ?_
  refine W.pre (K' := [(0, _), (1, _), (2, _), (3, _), (4, _), (6, _), (7, _), (14, _)]) (L' := [(0, _), (101, _), (102, _)]) ?_ ⟨rfl, ⟨rfl, ⟨rfl, ⟨rfl, ⟨rfl, ⟨rfl, ⟨rfl, ⟨rfl, trivial⟩⟩⟩⟩⟩⟩⟩⟩ ⟨rfl, ⟨rfl, ⟨rfl, trivial⟩⟩⟩
  refine W_regL (WL_pure rfl rfl (by decide) (Pu_loadBN (r := 101) rfl Try.isAgg52 Try.sizeOf52 rfl rfl ((bs_length _).trans hn) (load_all ((bs_length _).trans hn))) (WL_pure rfl rfl (by decide) (Pu_loadBN (r := 102) rfl Try.isAgg29 Try.sizeOf29 rfl rfl ((bs_length _).trans hs) (load_all ((bs_length _).trans hs))) (WL_pure rfl rfl (by decide) (Pu_move rfl rfl) (WL_cons rfl rfl (by decide) (OpT_call 200 [0, 101, 102] [] rfl Try.call36 rfl rfl rfl (by decide) (by decide) (tree6_spec nm hn seed hs _) (fun v18 Ps18 hR18 => ?_))))))
  subst hR18
  refine (WL_pure rfl rfl (by decide) (Pu_assign rfl rfl) (WL_nil (X_then ?_)))
  refine W_seq ?_
  refine W.pre (K' := [(0, _), (1, _), (2, _), (3, _), (4, _), (6, _), (7, _), (8, _), (14, _)]) (L' := [(0, _), (101, _), (102, _), (200, _)]) ?_ ⟨rfl, ⟨rfl, ⟨rfl, ⟨rfl, ⟨rfl, ⟨rfl, ⟨rfl, ⟨rfl, ⟨rfl, trivial⟩⟩⟩⟩⟩⟩⟩⟩⟩ ⟨rfl, ⟨rfl, ⟨rfl, ⟨rfl, trivial⟩⟩⟩⟩
  refine W_nilRow 185 5 1 ?_
  refine W_draw (N := 11) (by kernel_rfl) rfl [(0, _), (101, _), (102, _)] ⟨rfl, ⟨rfl, ⟨rfl, trivial⟩⟩⟩ ?_
  refine (AH_take 0 rfl (by kernel_rfl) (by kernel_rfl) (by kernel_rfl) rfl rfl (by decide) (Pu_move rfl rfl) (AH_take 3 rfl (by kernel_rfl) (by kernel_rfl) (by kernel_rfl) rfl rfl (by decide) (Pu_sliceArr rfl Try.runUnderlying52 Try.sizeOf5 rfl) (AH_take 5 rfl (by kernel_rfl) (by kernel_rfl) (by kernel_rfl) rfl rfl (by decide) (Pu_move rfl rfl) (AH_ready [1, 6] (by kernel_rfl) (by decide) ?_))))
  refine AHs_cons rfl rfl rfl (by decide) (OpT_call 300 [0, 101, 102, 200] [185] rfl Try.call37 rfl rfl rfl (by decide) (by decide) (four6_spec _ rfl _ [] 1 (by simp) _) (fun v20 Ps20 hR20 => ?_)) ?_
  ·
    subst hR20
    refine ⟨⟨rfl, ⟨rfl, ⟨rfl, trivial⟩⟩⟩, ?_⟩
    refine (AH_ready [2, 6] (by kernel_rfl) (by decide) ?_)
    refine AHs_cons rfl rfl rfl (by decide) (OpT_call 400 [0, 101, 102, 200] [300] rfl Try.call37 rfl rfl rfl (by decide) (by decide) (four6_spec _ rfl _ ([] ++ numB 1 4) 2 (by simp [numB_length]) _) (fun v21 Ps21 hR21 => ?_)) ?_
    ·
      subst hR21
      refine ⟨⟨rfl, ⟨rfl, ⟨rfl, trivial⟩⟩⟩, ?_⟩
      refine (AH_ready [4, 6] (by kernel_rfl) (by decide) ?_)
      refine AHs_cons rfl rfl rfl (by decide) (OpT_append (r := 400) (r2 := 101) rfl Try.underlying30 TI.hi5 TI.hz5 TI.hs5 TI.hby5 TI.hzs5 (by decide) rfl rfl rfl rfl (fun _ h => blk_all h hn) (bs_one _) (by unfold maxLen; simp [numB_length]) (by simp [numB_length]) (fun v23 => ?_)) ?_
      ·
        refine ⟨⟨rfl, ⟨rfl, ⟨rfl, trivial⟩⟩⟩, ?_⟩
        refine AH_turn (P' := rowB 5 v23 (numB 1 4 ++ numB 2 4 ++ nm)) 400 rfl (fun h hp => rowB_mk hp (by simp [numB_length, hn]) (by simp only [bs_append, List.nil_append])) ?_
        refine (AH_ready [6] (by kernel_rfl) (by decide) ?_)
        refine AHs_cons rfl rfl rfl (by decide) (OpT_run (Pu_idxS (r := 200) rfl Try.runUnderlying80 Try.sizeOf29 rfl rfl rfl rowI_rd (by rw [show (trB nm seed 1).length = 4 from rfl]; omega)) ⟨⟨rfl, ⟨rfl, ⟨rfl, trivial⟩⟩⟩, ?_⟩) ?_
        ·
          refine (AH_take 7 rfl (by kernel_rfl) (by kernel_rfl) (by kernel_rfl) rfl rfl (by decide) (Pu_sliceArrE rfl Try.runUnderlying29 Try.sizeOf5 rfl) (AH_ready [8] (by kernel_rfl) (by decide) ?_))
          refine AHs_cons rfl rfl rfl (by decide) (OpT_append (r := 400) (r2 := 200) rfl Try.underlying30 TI.hi5 TI.hz5 TI.hs5 TI.hby5 TI.hzs5 (by decide) rfl rfl rfl rfl (fun h hp => rdP_cast (rd_id (l := trB nm seed 1) (k := 1) (rowI_rd h hp) (trB_ids nm seed 1) (by rw [show (trB nm seed 1).length = 4 from rfl]; omega)) rfl (topT_length nm seed)) (bs_one _) (by unfold maxLen; simp [numB_length, hn]) (by simp [numB_length, hn]) (fun v27 => ?_)) ?_
          ·
            refine ⟨⟨rfl, ⟨rfl, ⟨rfl, trivial⟩⟩⟩, ?_⟩
            refine AH_turn (P' := rowB 5 v27 (pubT nm seed)) 400 rfl (fun h hp => rowB_mk hp (by unfold pubT; simp [numB_length, hn, topT_length]) (by unfold pubT; exact (bs_append _ _).symm)) ?_
            refine (AH_take 9 rfl (by kernel_rfl) (by kernel_rfl) (by kernel_rfl) rfl rfl (by decide) (Pu_assign rfl rfl) (AH_take 10 rfl (by kernel_rfl) (by kernel_rfl) (by kernel_rfl) rfl rfl (by decide) (Pu_assign rfl rfl) (AH_done (by kernel_rfl) (X_then ?_))))
            refine W_ret ?_
            exact X_ret [400] (Ps := [_]) (res2 Try.results17 rfl rfl) rfl (by decide) ⟨_, rfl, rfl⟩
          exact AHs_nil
        exact AHs_nil
      refine AHs_cons rfl rfl rfl (by decide) (OpT_run (Pu_idxS (r := 200) rfl Try.runUnderlying80 Try.sizeOf29 rfl rfl rfl rowI_rd (by rw [show (trB nm seed 1).length = 4 from rfl]; omega)) ⟨⟨rfl, ⟨rfl, ⟨rfl, trivial⟩⟩⟩, ?_⟩) ?_
      ·
        refine (AH_take 7 rfl (by kernel_rfl) (by kernel_rfl) (by kernel_rfl) rfl rfl (by decide) (Pu_sliceArrE rfl Try.runUnderlying29 Try.sizeOf5 rfl) (AH_ready [4] (by kernel_rfl) (by decide) ?_))
        refine AHs_cons rfl rfl rfl (by decide) (OpT_append (r := 400) (r2 := 101) rfl Try.underlying30 TI.hi5 TI.hz5 TI.hs5 TI.hby5 TI.hzs5 (by decide) rfl rfl rfl rfl (fun _ h => blk_all h hn) (bs_one _) (by unfold maxLen; simp [numB_length]) (by simp [numB_length]) (fun v23 => ?_)) ?_
        ·
          refine ⟨⟨rfl, ⟨rfl, ⟨rfl, trivial⟩⟩⟩, ?_⟩
          refine AH_turn (P' := rowB 5 v23 (numB 1 4 ++ numB 2 4 ++ nm)) 400 rfl (fun h hp => rowB_mk hp (by simp [numB_length, hn]) (by simp only [bs_append, List.nil_append])) ?_
          refine (AH_ready [8] (by kernel_rfl) (by decide) ?_)
          refine AHs_cons rfl rfl rfl (by decide) (OpT_append (r := 400) (r2 := 200) rfl Try.underlying30 TI.hi5 TI.hz5 TI.hs5 TI.hby5 TI.hzs5 (by decide) rfl rfl rfl rfl (fun h hp => rdP_cast (rd_id (l := trB nm seed 1) (k := 1) (rowI_rd h hp) (trB_ids nm seed 1) (by rw [show (trB nm seed 1).length = 4 from rfl]; omega)) rfl (topT_length nm seed)) (bs_one _) (by unfold maxLen; simp [numB_length, hn]) (by simp [numB_length, hn]) (fun v27 => ?_)) ?_
          ·
            refine ⟨⟨rfl, ⟨rfl, ⟨rfl, trivial⟩⟩⟩, ?_⟩
            refine AH_turn (P' := rowB 5 v27 (pubT nm seed)) 400 rfl (fun h hp => rowB_mk hp (by unfold pubT; simp [numB_length, hn, topT_length]) (by unfold pubT; exact (bs_append _ _).symm)) ?_
            refine (AH_take 9 rfl (by kernel_rfl) (by kernel_rfl) (by kernel_rfl) rfl rfl (by decide) (Pu_assign rfl rfl) (AH_take 10 rfl (by kernel_rfl) (by kernel_rfl) (by kernel_rfl) rfl rfl (by decide) (Pu_assign rfl rfl) (AH_done (by kernel_rfl) (X_then ?_))))
            refine W_ret ?_
            exact X_ret [400] (Ps := [_]) (res2 Try.results17 rfl rfl) rfl (by decide) ⟨_, rfl, rfl⟩
          exact AHs_nil
        exact AHs_nil
      exact AHs_nil
    refine AHs_cons rfl rfl rfl (by decide) (OpT_run (Pu_idxS (r := 200) rfl Try.runUnderlying80 Try.sizeOf29 rfl rfl rfl rowI_rd (by rw [show (trB nm seed 1).length = 4 from rfl]; omega)) ⟨⟨rfl, ⟨rfl, ⟨rfl, trivial⟩⟩⟩, ?_⟩) ?_
    ·
      refine (AH_take 7 rfl (by kernel_rfl) (by kernel_rfl) (by kernel_rfl) rfl rfl (by decide) (Pu_sliceArrE rfl Try.runUnderlying29 Try.sizeOf5 rfl) (AH_ready [2] (by kernel_rfl) (by decide) ?_))
      refine AHs_cons rfl rfl rfl (by decide) (OpT_call 400 [0, 101, 102, 200] [300] rfl Try.call37 rfl rfl rfl (by decide) (by decide) (four6_spec _ rfl _ ([] ++ numB 1 4) 2 (by simp [numB_length]) _) (fun v21 Ps21 hR21 => ?_)) ?_
      ·
        subst hR21
        refine ⟨⟨rfl, ⟨rfl, ⟨rfl, trivial⟩⟩⟩, ?_⟩
        refine (AH_ready [4] (by kernel_rfl) (by decide) ?_)
        refine AHs_cons rfl rfl rfl (by decide) (OpT_append (r := 400) (r2 := 101) rfl Try.underlying30 TI.hi5 TI.hz5 TI.hs5 TI.hby5 TI.hzs5 (by decide) rfl rfl rfl rfl (fun _ h => blk_all h hn) (bs_one _) (by unfold maxLen; simp [numB_length]) (by simp [numB_length]) (fun v23 => ?_)) ?_
        ·
          refine ⟨⟨rfl, ⟨rfl, ⟨rfl, trivial⟩⟩⟩, ?_⟩
          refine AH_turn (P' := rowB 5 v23 (numB 1 4 ++ numB 2 4 ++ nm)) 400 rfl (fun h hp => rowB_mk hp (by simp [numB_length, hn]) (by simp only [bs_append, List.nil_append])) ?_
          refine (AH_ready [8] (by kernel_rfl) (by decide) ?_)
          refine AHs_cons rfl rfl rfl (by decide) (OpT_append (r := 400) (r2 := 200) rfl Try.underlying30 TI.hi5 TI.hz5 TI.hs5 TI.hby5 TI.hzs5 (by decide) rfl rfl rfl rfl (fun h hp => rdP_cast (rd_id (l := trB nm seed 1) (k := 1) (rowI_rd h hp) (trB_ids nm seed 1) (by rw [show (trB nm seed 1).length = 4 from rfl]; omega)) rfl (topT_length nm seed)) (bs_one _) (by unfold maxLen; simp [numB_length, hn]) (by simp [numB_length, hn]) (fun v27 => ?_)) ?_
          ·
            refine ⟨⟨rfl, ⟨rfl, ⟨rfl, trivial⟩⟩⟩, ?_⟩
            refine AH_turn (P' := rowB 5 v27 (pubT nm seed)) 400 rfl (fun h hp => rowB_mk hp (by unfold pubT; simp [numB_length, hn, topT_length]) (by unfold pubT; exact (bs_append _ _).symm)) ?_
            refine (AH_take 9 rfl (by kernel_rfl) (by kernel_rfl) (by kernel_rfl) rfl rfl (by decide) (Pu_assign rfl rfl) (AH_take 10 rfl (by kernel_rfl) (by kernel_rfl) (by kernel_rfl) rfl rfl (by decide) (Pu_assign rfl rfl) (AH_done (by kernel_rfl) (X_then ?_))))
            refine W_ret ?_
            exact X_ret [400] (Ps := [_]) (res2 Try.results17 rfl rfl) rfl (by decide) ⟨_, rfl, rfl⟩
          exact AHs_nil
        exact AHs_nil
      exact AHs_nil
    exact AHs_nil
  refine AHs_cons rfl rfl rfl (by decide) (OpT_run (Pu_idxS (r := 200) rfl Try.runUnderlying80 Try.sizeOf29 rfl rfl rfl rowI_rd (by rw [show (trB nm seed 1).length = 4 from rfl]; omega)) ⟨⟨rfl, ⟨rfl, ⟨rfl, trivial⟩⟩⟩, ?_⟩) ?_
  ·
    refine (AH_take 7 rfl (by kernel_rfl) (by kernel_rfl) (by kernel_rfl) rfl rfl (by decide) (Pu_sliceArrE rfl Try.runUnderlying29 Try.sizeOf5 rfl) (AH_ready [1] (by kernel_rfl) (by decide) ?_))
    refine AHs_cons rfl rfl rfl (by decide) (OpT_call 300 [0, 101, 102, 200] [185] rfl Try.call37 rfl rfl rfl (by decide) (by decide) (four6_spec _ rfl _ [] 1 (by simp) _) (fun v20 Ps20 hR20 => ?_)) ?_
    ·
      subst hR20
      refine ⟨⟨rfl, ⟨rfl, ⟨rfl, trivial⟩⟩⟩, ?_⟩
      refine (AH_ready [2] (by kernel_rfl) (by decide) ?_)
      refine AHs_cons rfl rfl rfl (by decide) (OpT_call 400 [0, 101, 102, 200] [300] rfl Try.call37 rfl rfl rfl (by decide) (by decide) (four6_spec _ rfl _ ([] ++ numB 1 4) 2 (by simp [numB_length]) _) (fun v21 Ps21 hR21 => ?_)) ?_
      ·
        subst hR21
        refine ⟨⟨rfl, ⟨rfl, ⟨rfl, trivial⟩⟩⟩, ?_⟩
        refine (AH_ready [4] (by kernel_rfl) (by decide) ?_)
        refine AHs_cons rfl rfl rfl (by decide) (OpT_append (r := 400) (r2 := 101) rfl Try.underlying30 TI.hi5 TI.hz5 TI.hs5 TI.hby5 TI.hzs5 (by decide) rfl rfl rfl rfl (fun _ h => blk_all h hn) (bs_one _) (by unfold maxLen; simp [numB_length]) (by simp [numB_length]) (fun v23 => ?_)) ?_
        ·
          refine ⟨⟨rfl, ⟨rfl, ⟨rfl, trivial⟩⟩⟩, ?_⟩
          refine AH_turn (P' := rowB 5 v23 (numB 1 4 ++ numB 2 4 ++ nm)) 400 rfl (fun h hp => rowB_mk hp (by simp [numB_length, hn]) (by simp only [bs_append, List.nil_append])) ?_
          refine (AH_ready [8] (by kernel_rfl) (by decide) ?_)
          refine AHs_cons rfl rfl rfl (by decide) (OpT_append (r := 400) (r2 := 200) rfl Try.underlying30 TI.hi5 TI.hz5 TI.hs5 TI.hby5 TI.hzs5 (by decide) rfl rfl rfl rfl (fun h hp => rdP_cast (rd_id (l := trB nm seed 1) (k := 1) (rowI_rd h hp) (trB_ids nm seed 1) (by rw [show (trB nm seed 1).length = 4 from rfl]; omega)) rfl (topT_length nm seed)) (bs_one _) (by unfold maxLen; simp [numB_length, hn]) (by simp [numB_length, hn]) (fun v27 => ?_)) ?_
          ·
            refine ⟨⟨rfl, ⟨rfl, ⟨rfl, trivial⟩⟩⟩, ?_⟩
            refine AH_turn (P' := rowB 5 v27 (pubT nm seed)) 400 rfl (fun h hp => rowB_mk hp (by unfold pubT; simp [numB_length, hn, topT_length]) (by unfold pubT; exact (bs_append _ _).symm)) ?_
            refine (AH_take 9 rfl (by kernel_rfl) (by kernel_rfl) (by kernel_rfl) rfl rfl (by decide) (Pu_assign rfl rfl) (AH_take 10 rfl (by kernel_rfl) (by kernel_rfl) (by kernel_rfl) rfl rfl (by decide) (Pu_assign rfl rfl) (AH_done (by kernel_rfl) (X_then ?_))))
            refine W_ret ?_
            exact X_ret [400] (Ps := [_]) (res2 Try.results17 rfl rfl) rfl (by decide) ⟨_, rfl, rfl⟩
          exact AHs_nil
        exact AHs_nil
      exact AHs_nil
    exact AHs_nil
  exact AHs_nil
end Go.Proofs.Ytinamipkpdlphaa
/- The document's trees of signatures: signing. -/
namespace Go.Proofs.Ytinamipkpdlphaa
open Go.RowKit
set_option linter.unusedVariables false
set_option linter.unusedSimpArgs false
set_option maxRecDepth 8000

theorem sign6_spec (nm : List UInt8) (hn : nm.length = 16) (seed : List UInt8) (hs : seed.length = 32) (q : Nat) (hq : q < 2) (mv : Value) (msg : List UInt8) (hml : msg.length ≤ 1000000) (F : HP) (hm : ∀ h, F h → rdB mv msg h) : CallsS Try.prog 18 #[idV nm, idV seed, .int .i64 1, .int .i64 (q : Int), mv] F [] (fun r Ps => ∃ v, r = .tuple #[v, .int .i64 0] ∧ Ps = [rowB 5 v (sgnT nm seed q msg)]) := by
  refine callsS_enter Try.func18 rfl Try.ntmps18 (by simp) (fun E => ?_)
  refine W_seq ?_
  refine W.pre (K' := [(0, _), (1, _), (2, _), (3, _), (4, _)]) (L' := [(0, _)]) ?_ ⟨rfl, ⟨rfl, ⟨rfl, ⟨rfl, ⟨rfl, trivial⟩⟩⟩⟩⟩ ⟨rfl, trivial⟩
  refine W_regL (WL_cons rfl rfl (by decide) (OpT_box (r := 101) rfl rfl rfl (fun g101 => (WL_cons rfl rfl (by decide) (OpT_box (r := 102) rfl rfl rfl (fun g102 => (WL_pure rfl rfl (by decide) (Pu_assign rfl rfl) (WL_pure rfl rfl (by decide) (Pu_assign rfl rfl) (WL_nil (X_then ?_))))))))))
  refine W_seq ?_
  refine W_seq ?_
  refine W.pre (K' := [(0, _), (1, _), (2, _), (3, _), (4, _), (5, _), (6, _), (10, _), (11, _)]) (L' := [(0, _), (101, _), (102, _)]) ?_ ⟨rfl, ⟨rfl, ⟨rfl, ⟨rfl, ⟨rfl, ⟨rfl, ⟨rfl, ⟨rfl, ⟨rfl, trivial⟩⟩⟩⟩⟩⟩⟩⟩⟩ ⟨rfl, ⟨rfl, ⟨rfl, trivial⟩⟩⟩
  refine W_regL (WL_pure rfl rfl (by decide) (Pu_move rfl rfl) (WL_pure rfl rfl (by decide) (Pu_bin rfl rfl rfl (run_lss _ _ _ _ _ _)) (WL_pure rfl rfl (by decide) (Pu_move rfl rfl) (WL_guardP rfl rfl rfl rfl (by decide) (fun hb => (Pu_move rfl rfl)) (WL_guardP rfl rfl rfl rfl (by decide) (fun hb => (Pu_bin rfl (ev_gv rfl hb) rfl (run_gtr _ _ _ _ _ _))) (WL_pure rfl rfl (by decide) (Pu_or rfl rfl rfl) (WL_nil (X_then ?_))))))))
  refine W_false rfl (rfl) ?_
  refine W_skip (X_then ?_)
  refine W_seq ?_
  refine W_seq ?_
  refine W.pre (K' := [(0, _), (1, _), (2, _), (3, _), (4, _), (5, _), (6, _), (10, _), (11, _), (20, _)]) (L' := [(0, _), (101, _), (102, _)]) ?_ ⟨rfl, ⟨rfl, ⟨rfl, ⟨rfl, ⟨rfl, ⟨rfl, ⟨rfl, ⟨rfl, ⟨rfl, ⟨rfl, trivial⟩⟩⟩⟩⟩⟩⟩⟩⟩⟩ ⟨rfl, ⟨rfl, ⟨rfl, trivial⟩⟩⟩
  refine W_regL (WL_pure rfl rfl (by decide) (Pu_move rfl rfl) (WL_pure rfl rfl (by decide) (Pu_bin rfl rfl rfl (run_lss _ _ _ _ _ _)) (WL_pure rfl rfl (by decide) (Pu_move rfl rfl) (WL_guardP rfl rfl rfl rfl (by decide) (fun hb => (Pu_move rfl rfl)) (WL_guardP rfl rfl rfl rfl (by decide) (fun hb => (Pu_move rfl rfl)) (WL_guardP rfl rfl rfl rfl (by decide) (fun hb => (Pu_conv rfl (ev_gv rfl hb) (conv_u64 1 Try.runUnderlying3 Try.runUnderlying71 (by omega)))) (WL_guardP rfl rfl rfl rfl (by decide) (fun hb => (Pu_bin rfl rfl (ev_gv rfl hb) (run_shl 1 1 _ _ _ (by decide) (by decide)))) (WL_guardP rfl rfl rfl rfl (by decide) (fun hb => (Pu_bin rfl (ev_gv rfl hb) (ev_gv rfl hb) (run_geq _ _ _ _ _ _))) (WL_pure rfl rfl (by decide) (Pu_or rfl rfl rfl) (WL_nil (X_then ?_)))))))))))
  refine W_false rfl ((by rw [show ((1 * 2 ^ 1 : Nat) : Int) = 2 from rfl]; simp; omega)) ?_
  refine W_skip (X_then ?_)
  refine W_seq ?_
  refine W.pre (K' := [(0, _), (1, _), (2, _), (3, _), (4, _), (5, _), (6, _), (10, _), (11, _), (20, _), (29, _)]) (L' := [(0, _), (101, _), (102, _)]) ?_ ⟨rfl, ⟨rfl, ⟨rfl, ⟨rfl, ⟨rfl, ⟨rfl, ⟨rfl, ⟨rfl, ⟨rfl, ⟨rfl, ⟨rfl, trivial⟩⟩⟩⟩⟩⟩⟩⟩⟩⟩⟩ ⟨rfl, ⟨rfl, ⟨rfl, trivial⟩⟩⟩
  refine W_regL (WL_pure rfl rfl (by decide) (Pu_loadBN (r := 101) rfl Try.isAgg52 Try.sizeOf52 rfl rfl ((bs_length _).trans hn) (load_all ((bs_length _).trans hn))) (WL_pure rfl rfl (by decide) (Pu_loadBN (r := 102) rfl Try.isAgg29 Try.sizeOf29 rfl rfl ((bs_length _).trans hs) (load_all ((bs_length _).trans hs))) (WL_pure rfl rfl (by decide) (Pu_move rfl rfl) (WL_cons rfl rfl (by decide) (OpT_call 200 [0, 101, 102] [] rfl Try.call36 rfl rfl rfl (by decide) (by decide) (tree6_spec nm hn seed hs _) (fun v33 Ps33 hR33 => ?_))))))
  subst hR33
  refine (WL_pure rfl rfl (by decide) (Pu_assign rfl rfl) (WL_nil (X_then ?_)))
  refine W_cut (α := Value) (fun z13 => [(2, .int .i64 1), (3, .int .i64 (q : Int)), (12, v33), (13, z13)]) (fun z13 => [(0, F), (200, rowI 29 v33 (trB nm seed 1)), (181, rowB 5 z13 (numB (q : Int) 4 ++ sgnO nm q seed msg))]) (fun z13 => True) ?_ (fun z13 _ => ?_)
  ·
    refine W.pre (K' := [(0, _), (1, _), (2, _), (3, _), (4, _), (5, _), (6, _), (10, _), (11, _), (12, _), (20, _), (29, _)]) (L' := [(0, _), (101, _), (102, _), (200, _)]) ?_ ⟨rfl, ⟨rfl, ⟨rfl, ⟨rfl, ⟨rfl, ⟨rfl, ⟨rfl, ⟨rfl, ⟨rfl, ⟨rfl, ⟨rfl, ⟨rfl, trivial⟩⟩⟩⟩⟩⟩⟩⟩⟩⟩⟩⟩ ⟨rfl, ⟨rfl, ⟨rfl, ⟨rfl, trivial⟩⟩⟩⟩
    refine W_nilRow 185 5 1 ?_
    refine W_draw (N := 9) (by kernel_rfl) rfl [(0, _), (101, _), (102, _)] ⟨rfl, ⟨rfl, ⟨rfl, trivial⟩⟩⟩ ?_
    refine (AH_take 0 rfl (by kernel_rfl) (by kernel_rfl) (by kernel_rfl) rfl rfl (by decide) (Pu_move rfl rfl) (AH_take 2 rfl (by kernel_rfl) (by kernel_rfl) (by kernel_rfl) rfl rfl (by decide) (Pu_loadBN (r := 101) rfl Try.isAgg52 Try.sizeOf52 rfl rfl ((bs_length _).trans hn) (load_all ((bs_length _).trans hn))) (AH_take 3 rfl (by kernel_rfl) (by kernel_rfl) (by kernel_rfl) rfl rfl (by decide) (Pu_move rfl rfl) (AH_take 4 rfl (by kernel_rfl) (by kernel_rfl) (by kernel_rfl) rfl rfl (by decide) (Pu_loadBN (r := 102) rfl Try.isAgg29 Try.sizeOf29 rfl rfl ((bs_length _).trans hs) (load_all ((bs_length _).trans hs))) (AH_take 5 rfl (by kernel_rfl) (by kernel_rfl) (by kernel_rfl) rfl rfl (by decide) (Pu_move rfl rfl) (AH_ready [1] (by kernel_rfl) (by decide) ?_))))))
    refine AHs_cons rfl rfl rfl (by decide) (OpT_call 300 [0, 101, 102, 200] [185] rfl Try.call37 rfl rfl rfl (by decide) (by decide) (four6_spec _ rfl _ [] (q : Int) (by simp) _) (fun v35 Ps35 hR35 => ?_)) ?_
    ·
      subst hR35
      refine ⟨⟨rfl, ⟨rfl, ⟨rfl, trivial⟩⟩⟩, ?_⟩
      refine (AH_ready [6] (by kernel_rfl) (by decide) ?_)
      refine AHs_cons rfl rfl rfl (by decide) (OpT_call 400 [0, 101, 102, 200, 300] [] rfl Try.call38 rfl rfl rfl (by decide) (by decide) (sign5_spec nm hn (q : Int) seed hs _ msg hml _ (rd_star 0 rfl hm)) (fun v40 Ps40 hR40 => ?_)) ?_
      ·
        subst hR40
        refine ⟨⟨rfl, ⟨rfl, ⟨rfl, trivial⟩⟩⟩, ?_⟩
        refine (AH_ready [7] (by kernel_rfl) (by decide) ?_)
        refine AHs_cons rfl rfl rfl (by decide) (OpT_append (r := 300) (r2 := 400) rfl Try.underlying30 TI.hi5 TI.hz5 TI.hs5 TI.hby5 TI.hzs5 (by decide) rfl rfl rfl rfl rowB_rd (bs_one _) (by unfold maxLen; simp [numB_length, sgnO_length]) (by simp [numB_length, sgnO_length]) (fun v41 => ?_)) ?_
        ·
          refine ⟨⟨rfl, ⟨rfl, ⟨rfl, trivial⟩⟩⟩, ?_⟩
          refine AH_turn (P' := rowB 5 v41 (numB (q : Int) 4 ++ sgnO nm q seed msg)) 300 rfl (fun h hp => rowB_mk hp (by simp [numB_length, sgnO_length]) (by simp only [bs_append, List.nil_append])) ?_
          refine (AH_take 8 rfl (by kernel_rfl) (by kernel_rfl) (by kernel_rfl) rfl rfl (by decide) (Pu_assign rfl rfl) (AH_done (by kernel_rfl) ?_))
          refine X_ren 300 181 rfl ?_
          exact X_cut v41 trivial ⟨rfl, rfl, rfl, rfl, trivial⟩ ⟨rfl, rfl, rfl, trivial⟩
        exact AHs_nil
      exact AHs_nil
    exact AHs_nil
  ·
    refine W_seq ?_
    refine W.pre (K' := [(2, _), (3, _), (12, _), (13, _)]) (L' := [(0, _), (181, _), (200, _)]) ?_ ⟨rfl, ⟨rfl, ⟨rfl, ⟨rfl, trivial⟩⟩⟩⟩ ⟨rfl, ⟨rfl, ⟨rfl, trivial⟩⟩⟩
    refine W_regL (WL_pure rfl rfl (by decide) (Pu_move rfl rfl) (WL_pure rfl rfl (by decide) (Pu_move rfl rfl) (WL_cons rfl rfl (by decide) (OpT_call 300 [0, 200] [181] rfl Try.call37 rfl rfl rfl (by decide) (by decide) (four6_spec _ rfl z13 (numB (q : Int) 4 ++ sgnO nm q seed msg) 1 (by simp [numB_length, sgnO_length]) _) (fun v44 Ps44 hR44 => ?_)))))
    subst hR44
    refine WL_turn (P' := rowB 5 v44 (numB (q : Int) 4 ++ sgnO nm q seed msg ++ numB 1 4)) 300 rfl (fun h hp => hp) ?_
    refine (WL_pure rfl rfl (by decide) (Pu_assign rfl rfl) (WL_nil (X_then ?_)))
    refine W_seq ?_
    refine W_seq ?_
    refine W.pre (K' := [(2, _), (3, _), (12, _), (13, _)]) (L' := [(0, _), (200, _), (300, _)]) ?_ ⟨rfl, ⟨rfl, ⟨rfl, ⟨rfl, trivial⟩⟩⟩⟩ ⟨rfl, ⟨rfl, ⟨rfl, trivial⟩⟩⟩
    refine W_regL (WL_pure rfl rfl (by decide) (Pu_move rfl rfl) (WL_pure rfl rfl (by decide) (Pu_conv rfl rfl (conv_u64 1 Try.runUnderlying3 Try.runUnderlying71 (by omega))) (WL_pure rfl rfl (by decide) (Pu_bin rfl rfl rfl (run_shl 1 1 _ _ _ (by decide) (by decide))) ?_)))
    rw [show ((1 * 2 ^ 1 : Nat) : Int) = 2 from rfl]
    refine (WL_pure rfl rfl (by decide) (Pu_move rfl rfl) (WL_pure rfl rfl (by decide) (Pu_bin rfl rfl rfl (run_add _ _ _ _ _ (by omega))) ?_))
    rw [show (2 : Int) + (q : Int) = ((2 + q : Nat) : Int) by omega]
    refine (WL_pure rfl rfl (by decide) (Pu_assign rfl rfl) (WL_nil (X_then ?_)))
    refine W_block ?_
    refine W_loop (α := Value × Nat) (fun y => [(12, v33), (13, y.1), (14, .int .i64 ((if y.2 = 0 then 2 + q else 1 : Nat) : Int))]) (fun y => [(0, F), (200, rowI 29 v33 (trB nm seed 1)), (300, rowB 5 y.1 (if 0 < y.2 then sgnT nm seed q msg else numB (q : Int) 4 ++ sgnO nm q seed msg ++ numB 1 4))]) (fun y => y.2 ≤ 1) (fun y => 1 - y.2) ((v44, 0)) (by show 0 ≤ 1; omega) ⟨rfl, ⟨rfl, ⟨rfl, trivial⟩⟩⟩ ⟨rfl, rfl, rfl, trivial⟩ (fun y hy => ?_)
    obtain ⟨yv, yn⟩ := y
    refine W_seq ?_
    refine W_seq ?_
    refine W.pre (K' := [(12, _), (13, _), (14, _)]) (L' := [(0, _), (200, _), (300, _)]) ?_ ⟨rfl, ⟨rfl, ⟨rfl, trivial⟩⟩⟩ ⟨rfl, ⟨rfl, ⟨rfl, trivial⟩⟩⟩
    refine W_regL (WL_pure rfl rfl (by decide) (Pu_move rfl rfl) (WL_pure rfl rfl (by decide) (Pu_bin rfl rfl rfl (run_gtr _ _ _ _ _ _)) (WL_nil (X_then ?_))))
    refine W_cond rfl (fun hc51 => ?_) (fun hc51 => ?_)
    ·
      obtain rfl : yn = 0 := by
        have h1 := of_decide_eq_true hc51
        rcases Nat.eq_zero_or_pos yn with h | h
        · exact h
        · exfalso
          obtain rfl : yn = 1 := by have : yn ≤ 1 := hy; omega
          exact absurd h1 (by show ¬ (1 : Int) < ((1 : Nat) : Int); omega)
      refine W_skip (X_then ?_)
      refine W_seq ?_
      refine W_block ?_
      refine W.pre (K' := [(12, _), (13, _), (14, _), (51, _)]) (L' := [(0, _), (200, _), (300, _)]) ?_ ⟨rfl, ⟨rfl, ⟨rfl, ⟨rfl, trivial⟩⟩⟩⟩ ⟨rfl, ⟨rfl, ⟨rfl, trivial⟩⟩⟩
      refine W_regL (WL_pure rfl rfl (by decide) (Pu_move rfl rfl) (WL_pure rfl rfl (by decide) (Pu_move rfl rfl) (WL_pure rfl rfl (by decide) (Pu_move rfl rfl) (WL_pure rfl rfl (by decide) (Pu_bin rfl rfl rfl (run_xorB _ _ (xor_two hq) _ _ _)) (WL_pure rfl rfl (by decide) (Pu_idxS (r := 200) rfl Try.runUnderlying80 Try.sizeOf29 rfl rfl rfl rowI_rd (by rw [show (trB nm seed 1).length = 4 from rfl]; omega)) (WL_pure rfl rfl (by decide) (Pu_sliceArrE rfl Try.runUnderlying29 Try.sizeOf5 rfl) (WL_cons rfl rfl (by decide) (OpT_append (r := 300) (r2 := 200) rfl Try.underlying30 TI.hi5 TI.hz5 TI.hs5 TI.hby5 TI.hzs5 (by decide) rfl rfl rfl rfl (fun h hp => rdP_cast (rd_id (l := trB nm seed 1) (k := 2 + (1 - q)) (rowI_rd h hp) (trB_ids nm seed 1) (by rw [show (trB nm seed 1).length = 4 from rfl]; omega)) rfl (by rw [trB_leaf nm seed 1 (show 1 - q < 2 by omega), leafT_length])) (bs_one _) (by unfold maxLen; simp [numB_length, sgnO_length]) (by simp [numB_length, sgnO_length]) (fun v60 => ?_)))))))))
      refine (WL_pure rfl rfl (by decide) (Pu_assign rfl rfl) (WL_nil (X_block (X_then ?_))))
      refine W.pre (K' := [(12, _), (13, _), (14, _), (51, _)]) (L' := [(0, _), (200, _), (300, _)]) ?_ ⟨rfl, ⟨rfl, ⟨rfl, ⟨rfl, trivial⟩⟩⟩⟩ ⟨rfl, ⟨rfl, ⟨rfl, trivial⟩⟩⟩
      refine W_regL (WL_pure rfl rfl (by decide) (Pu_move rfl rfl) (WL_pure rfl rfl (by decide) (Pu_bin rfl rfl rfl (run_quo _ _ _ _ _ (by show 0 ≤ ((2 + q : Nat) : Int) ∧ ((2 + q : Nat) : Int) < 9223372036854775808 ∧ (0 : Int) < 2; omega))) (WL_pure rfl rfl (by decide) (Pu_assign rfl rfl) (WL_nil ?_))))
      refine X_turn (P' := rowB 5 v60 (sgnT nm seed q msg)) 300 rfl (fun h hp => rowB_mk hp (by unfold sgnT; simp [numB_length, sgnO_length, leafT_length]) (by unfold sgnT; rw [trB_leaf nm seed 1 (show 1 - q < 2 by omega)]; exact (bs_append _ _).symm)) ?_
      exact X_round (v60, 1) (by show 1 ≤ 1; omega) (by show 1 - 1 < 1 - 0; omega) ⟨rfl, rfl, lookV_eq rfl (int_eq (by show ((2 + q : Nat) : Int) / 2 = ((1 : Nat) : Int); omega)), trivial⟩ ⟨rfl, rfl, rfl, trivial⟩
    ·
      obtain rfl : yn = 1 := by
        have h1 := of_decide_eq_false hc51
        rcases Nat.eq_zero_or_pos yn with h | h
        · exfalso
          subst h
          exact h1 (by show (1 : Int) < ((2 + q : Nat) : Int); omega)
        · have : yn ≤ 1 := hy; omega
      refine W_exit (X_then_exit (X_then_exit (X_block_exit (X_then ?_))))
      refine W_seq ?_
      refine W.pre (K' := [(12, _), (13, _), (14, _), (51, _)]) (L' := [(0, _), (200, _), (300, _)]) ?_ ⟨rfl, ⟨rfl, ⟨rfl, ⟨rfl, trivial⟩⟩⟩⟩ ⟨rfl, ⟨rfl, ⟨rfl, trivial⟩⟩⟩
      refine W_regL (WL_pure rfl rfl (by decide) (Pu_move rfl rfl) (WL_pure rfl rfl (by decide) (Pu_assign rfl rfl) (WL_pure rfl rfl (by decide) (Pu_assign rfl rfl) (WL_nil (X_then ?_)))))
      refine W_ret ?_
      exact X_ret [300] (Ps := [_]) (res2 Try.results18 rfl rfl) rfl (by decide) ⟨_, rfl, rfl⟩
end Go.Proofs.Ytinamipkpdlphaa
/- Signatures: what the check's walk needs, in plain words. -/
namespace Go.Proofs.Ytinamipkpdlphaa
open Go.RowKit
set_option linter.unusedVariables false
set_option linter.unusedSimpArgs false
theorem rdB_subL {v : Value} {l l' : List UInt8} {h : Hlt} (hr : rdB v l h) {a b : Nat} (hab : a ≤ b) (hb : b ≤ l.length) (hl : (l.drop a).take (b - a) = l') : rdB (subV 1 v a b) l' h := by subst hl; exact rdB_sub hr hab hb
theorem bckE_bad {sig : List UInt8} (h : (!decide (bckE sig = 0)) = true) : okB sig = false := by
  unfold bckE at h
  cases hb : okB sig with
  | false => rfl
  | true => rw [hb] at h; exact absurd h (by decide)
theorem bckE_good {sig : List UInt8} (h : (!decide (bckE sig = 0)) = false) : okB sig = true := by
  unfold bckE at h
  cases hb : okB sig with
  | true => rfl
  | false => rw [hb] at h; exact absurd h (by decide)
theorem bckE_false {sig : List UInt8} (h : okB sig = false) : bckE sig = 12 := by unfold bckE; rw [h]; rfl
theorem bckR_true {nm : List UInt8} {q : Int} {msg sig : List UInt8} (h : okB sig = true) : bckR nm q msg sig = bckO nm q msg sig := by unfold bckR; rw [h]; rfl
abbrev nmP (pub : List UInt8) : List UInt8 := (pub.drop 8).take 16
/-- On the way up. -/
structure UpT (pub msg sig : List UInt8) (x r : Nat) (t : List UInt8) : Prop where
  le : x ≤ val pub 4
  lo : 2 ^ (val pub 4 - x) ≤ r
  hi : r < 2 ^ (val pub 4 - x + 1)
  len : t.length = 32
  eq : climb (nmP pub) (val pub 4 - x) r t (sig.drop (4300 + 32 * x)) = rootT pub msg sig
theorem UpT.more {pub msg sig : List UInt8} {x r : Nat} {t : List UInt8} (h : UpT pub msg sig x r t) (hr : 1 < r) : x < val pub 4 := by
  have h1 := h.le
  have h2 := h.hi
  rcases Nat.lt_or_ge x (val pub 4) with h3 | h3
  · exact h3
  · rw [show val pub 4 - x = 0 by omega] at h2
    have : (2 : Nat) ^ (0 + 1) = 2 := rfl
    omega
theorem UpT.done {pub msg sig : List UInt8} {x r : Nat} {t : List UInt8} (h : UpT pub msg sig x r t) (hr : ¬ 1 < r) : t = rootT pub msg sig := by
  have h1 := h.lo
  have h3 : val pub 4 - x = 0 := by
    cases hk : val pub 4 - x with
    | zero => rfl
    | succ k =>
      rw [hk, Nat.pow_succ] at h1
      have := Nat.one_le_two_pow (n := k)
      omega
  have h2 := h.eq
  rw [h3] at h2
  exact h2
theorem UpT.step {pub msg sig : List UInt8} {x r : Nat} {t : List UInt8} (h : UpT pub msg sig x r t) (hr : 1 < r) : UpT pub msg sig (x + 1) (r / 2) (nodH (nmP pub) ((r / 2 : Nat) : Int) 131 (if r % 2 = 1 then (sig.drop (4300 + 32 * x)).take 32 ++ t else t ++ (sig.drop (4300 + 32 * x)).take 32)) := by
  have h0 := h.more hr
  have h1 := h.lo
  have h2 := h.hi
  have h3 := h.eq
  rw [show val pub 4 - x = (val pub 4 - (x + 1)) + 1 by omega] at h1 h2 h3
  rw [Nat.pow_succ] at h1 h2
  rw [climb_succ, List.drop_drop, show 4300 + 32 * x + 32 = 4300 + 32 * (x + 1) by omega] at h3
  exact ⟨by omega, by omega, by omega, nodH_length _ _ _ _, h3⟩
theorem UpT.even {pub msg sig : List UInt8} {x r : Nat} {t : List UInt8} (h : UpT pub msg sig x r t) (hr : 1 < r) (he : r % 2 = 0) : UpT pub msg sig (x + 1) (r / 2) (nodH (nmP pub) ((r / 2 : Nat) : Int) 131 (t ++ (sig.drop (4300 + 32 * x)).take 32)) := by
  have := h.step hr
  rw [if_neg (by omega)] at this
  exact this
theorem UpT.odd {pub msg sig : List UInt8} {x r : Nat} {t : List UInt8} (h : UpT pub msg sig x r t) (hr : 1 < r) (he : ¬ r % 2 = 0) : UpT pub msg sig (x + 1) (r / 2) (nodH (nmP pub) ((r / 2 : Nat) : Int) 131 ((sig.drop (4300 + 32 * x)).take 32 ++ t)) := by
  have := h.step hr
  rw [if_pos (by omega)] at this
  exact this
theorem UpT.start {pub msg sig : List UInt8} (hq : val sig 4 < 2 ^ val pub 4) (hok : okB ((sig.drop 4).take 4292) = true) : UpT pub msg sig 0 (2 ^ val pub 4 + val sig 4) (nodH (nmP pub) ((2 ^ val pub 4 + val sig 4 : Nat) : Int) 130 (bckR (nmP pub) (val sig 4 : Nat) msg ((sig.drop 4).take 4292))) := by
  refine ⟨Nat.zero_le _, ?_, ?_, nodH_length _ _ _ _, ?_⟩
  · rw [Nat.sub_zero]; exact Nat.le_add_right _ _
  · rw [Nat.sub_zero, Nat.pow_succ]; omega
  · rw [bckR_true hok]; rfl
end Go.Proofs.Ytinamipkpdlphaa
/- The document's check of a signature. -/
namespace Go.Proofs.Ytinamipkpdlphaa
open Go.RowKit
set_option linter.unusedVariables false
set_option linter.unusedSimpArgs false
set_option maxRecDepth 8000

end Go.Proofs.Ytinamipkpdlphaa
