/- Texts of this proof, one behind the other: LmsC, LmsT, LmsD, LmsE. -/
import Derived.Test.YtinamipkpdlphaaK3
import Derived.Stop.BytesEq
/- The document's signatures for once: keys, digits. -/
namespace Go.Proofs.Ytinamipkpdlphaa
open Go.RowKit
set_option linter.unusedVariables false
set_option linter.unusedSimpArgs false
set_option maxRecDepth 8000

theorem public5_spec (nm : List UInt8) (hn : nm.length = 16) (q : Int) (seed : List UInt8) (hs : seed.length = 32) (F : HP) : CallsS Try.prog 54 #[idV nm, .int .i64 q, idV seed] F [] (fun r Ps => r = idV (pubO nm q seed) ∧ Ps = []) := by
  refine callsS_enter Try.func54 rfl Try.ntmps54 (by simp) (fun E => ?_)
  refine W_seq ?_
  refine W.pre (K' := [(0, _), (1, _), (2, _)]) (L' := [(0, _)]) ?_ ⟨rfl, ⟨rfl, ⟨rfl, trivial⟩⟩⟩ ⟨rfl, trivial⟩
  refine W_regL (WL_cons rfl rfl (by decide) (OpT_box (r := 101) rfl rfl rfl (fun g101 => (WL_cons rfl rfl (by decide) (OpT_box (r := 102) rfl rfl rfl (fun g102 => (WL_cons rfl rfl (by decide) (OpT_alloc (r := 103) (cs := (bs zeroId)) rfl (zero_run (by kernel_rfl : (Try.prog.info? 29).bind (·.zero) = some (.agg (bs zeroId).toArray))) rfl (fun g103 => (WL_nil (X_then ?_)))))))))))
  refine W_seq ?_
  refine W.pre (K' := [(0, _), (1, _), (2, _), (3, _), (5, _), (6, _)]) (L' := [(0, _), (101, _), (102, _), (103, _)]) ?_ ⟨rfl, ⟨rfl, ⟨rfl, ⟨rfl, ⟨rfl, ⟨rfl, trivial⟩⟩⟩⟩⟩⟩ ⟨rfl, ⟨rfl, ⟨rfl, ⟨rfl, trivial⟩⟩⟩⟩
  refine W_regL (WL_pure rfl rfl (by decide) (Pu_loadBN (r := 101) rfl Try.isAgg52 Try.sizeOf52 rfl rfl ((bs_length _).trans hn) (load_all ((bs_length _).trans hn))) (WL_pure rfl rfl (by decide) (Pu_move rfl rfl) (WL_cons rfl rfl (by decide) (OpT_call 200 [0, 101, 102, 103] [] rfl Try.call56 rfl rfl rfl (by decide) (by decide) (head5_spec nm hn q _) (fun v12 Ps12 hR12 => ?_)))))
  subst hR12
  refine (WL_cons rfl rfl (by decide) (OpT_buildOnes (r := 201) (bs [128, 128]) rfl rfl Try.runUnderlying30 Try.sizeOf5 Try.zeroValue5 rfl rfl (by decide) rfl (bs_cells _) (fun v13 => (WL_cons rfl rfl (by decide) (OpT_append (r := 200) (r2 := 201) rfl Try.underlying30 TI.hi5 TI.hz5 TI.hs5 TI.hby5 TI.hzs5 (by decide) rfl rfl rfl rfl (fun _ h => rowP_rd h) (bs_one _) (by unfold maxLen; simp [hdL_length hn, numB_length, *] <;> omega) (by simp [hdL_length hn, numB_length, *] <;> omega) (fun v14 => ?_))))))
  refine WL_turn (P' := rowB 5 v14 (hdL nm q ++ [128, 128])) 200 rfl (fun h hp => rowB_mk hp (by simp [hdL_length hn, numB_length, *] <;> omega) (by simp only [bs_append])) ?_
  refine (WL_pure rfl rfl (by decide) (Pu_assign rfl rfl) (WL_nil (X_then ?_)))
  refine W_seq ?_
  refine W_seq ?_
  refine W.pre (K' := [(0, _), (1, _), (2, _), (3, _), (5, _), (6, _), (7, _)]) (L' := [(0, _), (101, _), (102, _), (103, _), (200, _), (201, _)]) ?_ ⟨rfl, ⟨rfl, ⟨rfl, ⟨rfl, ⟨rfl, ⟨rfl, ⟨rfl, trivial⟩⟩⟩⟩⟩⟩⟩ ⟨rfl, ⟨rfl, ⟨rfl, ⟨rfl, ⟨rfl, ⟨rfl, trivial⟩⟩⟩⟩⟩⟩
  refine W_regL (WL_pure rfl rfl (by decide) (Pu_assign rfl rfl) (WL_nil (X_then ?_)))
  refine W_block ?_
  refine W_loop (α := Value × Nat) (fun y => [(1, .int .i64 q), (3, .pointer (some ⟨g101, 0, none⟩)), (5, .pointer (some ⟨g102, 0, none⟩)), (6, .pointer (some ⟨g103, 0, none⟩)), (7, y.1), (8, .int .i64 (y.2 : Int))]) (fun y => [(0, F), (101, blk g101 52 (bs nm)), (102, blk g102 29 (bs seed)), (103, blk g103 29 (bs zeroId)), (200, rowB 5 y.1 (hdL nm q ++ [128, 128] ++ rowsC (pubY nm q seed) y.2))]) (fun y => y.2 ≤ 133) (fun y => 133 - y.2) ((v14, 0)) (by dsimp only; omega) ⟨rfl, ⟨rfl, ⟨rfl, ⟨rfl, ⟨rfl, ⟨rfl, trivial⟩⟩⟩⟩⟩⟩ ⟨rfl, rfl, rfl, rfl, look_eq rfl (by rw [rowsC, List.append_nil]), trivial⟩ (fun y hy => ?_)
  have hyl : (rowsC (pubY nm q seed) y.2).length = 32 * y.2 := rowsC_length fun i _ => pubY_length _ _ _ i
  refine W_seq ?_
  refine W_seq ?_
  refine W.pre (K' := [(1, _), (3, _), (5, _), (6, _), (7, _), (8, _)]) (L' := [(0, _), (101, _), (102, _), (103, _), (200, _)]) ?_ ⟨rfl, ⟨rfl, ⟨rfl, ⟨rfl, ⟨rfl, ⟨rfl, trivial⟩⟩⟩⟩⟩⟩ ⟨rfl, ⟨rfl, ⟨rfl, ⟨rfl, ⟨rfl, trivial⟩⟩⟩⟩⟩
  refine W_regL (WL_pure rfl rfl (by decide) (Pu_move rfl rfl) (WL_pure rfl rfl (by decide) (Pu_bin rfl rfl rfl (run_lss _ _ _ _ _ _)) (WL_nil (X_then ?_))))
  refine W_cond rfl (fun hc16 => ?_) (fun hc16 => ?_)
  ·
    have hlt : y.2 < 133 := by have := of_decide_eq_true hc16; omega
    refine W_skip (X_then ?_)
    refine W_seq ?_
    refine W_block ?_
    refine W_seq ?_
    refine W.pre (K' := [(1, _), (3, _), (5, _), (6, _), (7, _), (8, _), (16, _)]) (L' := [(0, _), (101, _), (102, _), (103, _), (200, _)]) ?_ ⟨rfl, ⟨rfl, ⟨rfl, ⟨rfl, ⟨rfl, ⟨rfl, ⟨rfl, trivial⟩⟩⟩⟩⟩⟩⟩ ⟨rfl, ⟨rfl, ⟨rfl, ⟨rfl, ⟨rfl, trivial⟩⟩⟩⟩⟩
    refine W_draw (N := 11) (by kernel_rfl) rfl [(0, _), (101, _), (102, _), (103, _)] ⟨rfl, ⟨rfl, ⟨rfl, ⟨rfl, trivial⟩⟩⟩⟩ ?_
    refine (AH_take 0 rfl (by kernel_rfl) (by kernel_rfl) (by kernel_rfl) rfl rfl (by decide) (Pu_loadBN (r := 101) rfl Try.isAgg52 Try.sizeOf52 rfl rfl ((bs_length _).trans hn) (load_all ((bs_length _).trans hn))) (AH_take 1 rfl (by kernel_rfl) (by kernel_rfl) (by kernel_rfl) rfl rfl (by decide) (Pu_move rfl rfl) (AH_take 2 rfl (by kernel_rfl) (by kernel_rfl) (by kernel_rfl) rfl rfl (by decide) (Pu_move rfl rfl) (AH_take 3 rfl (by kernel_rfl) (by kernel_rfl) (by kernel_rfl) rfl rfl (by decide) (Pu_loadBN (r := 101) rfl Try.isAgg52 Try.sizeOf52 rfl rfl ((bs_length _).trans hn) (load_all ((bs_length _).trans hn))) (AH_take 4 rfl (by kernel_rfl) (by kernel_rfl) (by kernel_rfl) rfl rfl (by decide) (Pu_move rfl rfl) (AH_take 5 rfl (by kernel_rfl) (by kernel_rfl) (by kernel_rfl) rfl rfl (by decide) (Pu_move rfl rfl) (AH_take 6 rfl (by kernel_rfl) (by kernel_rfl) (by kernel_rfl) rfl rfl (by decide) (Pu_loadBN (r := 102) rfl Try.isAgg29 Try.sizeOf29 rfl rfl ((bs_length _).trans hs) (load_all ((bs_length _).trans hs))) (AH_ready [7, 9] (by kernel_rfl) (by decide) ?_))))))))
    refine AHs_cons rfl rfl rfl (by decide) (OpT_call 300 [0, 101, 102, 103, 200] [] rfl Try.call60 rfl rfl rfl (by decide) (by decide) (secret5_spec nm hn q (y.2 : Int) seed hs _) (fun v26 Ps26 hR26 => ?_)) ?_
    ·
      obtain ⟨rfl, rfl⟩ := hR26
      refine ⟨⟨rfl, ⟨rfl, ⟨rfl, ⟨rfl, trivial⟩⟩⟩⟩, ?_⟩
      refine (AH_ready [8, 9] (by kernel_rfl) (by decide) ?_)
      refine AHs_cons rfl rfl rfl (by decide) (OpT_call 400 [0, 101, 102, 103, 200] [] rfl Try.call59 rfl rfl rfl (by decide) (by decide) (walk5_spec nm hn q y.2 0 3 (by omega) (by omega) (hashC nm q (y.2 : Int) 255 seed) (hashC_length _ _ _ _ _) _) (fun v27 Ps27 hR27 => ?_)) ?_
      ·
        obtain ⟨rfl, rfl⟩ := hR27
        refine ⟨⟨rfl, ⟨rfl, ⟨rfl, ⟨rfl, trivial⟩⟩⟩⟩, ?_⟩
        refine (AH_ready [9] (by kernel_rfl) (by decide) ?_)
        refine AHs_cons rfl rfl rfl (by decide) (OpT_alloc (r := 401) (cs := (bs zeroId)) rfl (zero_run (by kernel_rfl : (Try.prog.info? 29).bind (·.zero) = some (.agg (bs zeroId).toArray))) rfl (fun g401 => ⟨⟨rfl, ⟨rfl, ⟨rfl, ⟨rfl, trivial⟩⟩⟩⟩, ?_⟩)) ?_
        ·
          refine (AH_ready [10] (by kernel_rfl) (by decide) ?_)
          refine AHs_cons0 rfl rfl rfl (OpT_storeAll (r := 401) rfl Try.sizeOf29 rfl rfl rfl rfl ((bs_length _).trans (pubY_length nm q seed y.2)) (bs_one _) ?_) ?_
          ·
            refine ⟨⟨rfl, ⟨rfl, ⟨rfl, ⟨rfl, trivial⟩⟩⟩⟩, ?_⟩
            refine (AH_done (by kernel_rfl) (X_then ?_))
            refine W.pre (K' := [(1, _), (3, _), (5, _), (6, _), (7, _), (8, _), (9, _), (16, _)]) (L' := [(0, _), (101, _), (102, _), (103, _), (200, _), (401, _)]) ?_ ⟨rfl, ⟨rfl, ⟨rfl, ⟨rfl, ⟨rfl, ⟨rfl, ⟨rfl, ⟨rfl, trivial⟩⟩⟩⟩⟩⟩⟩⟩ ⟨rfl, ⟨rfl, ⟨rfl, ⟨rfl, ⟨rfl, ⟨rfl, trivial⟩⟩⟩⟩⟩⟩
            refine W_regL (WL_pure rfl rfl (by decide) (Pu_move rfl rfl) (WL_pure rfl rfl (by decide) (Pu_sliceArr rfl Try.runUnderlying29 Try.sizeOf5 rfl) (WL_cons rfl rfl (by decide) (OpT_append (r := 200) (r2 := 401) rfl Try.underlying30 TI.hi5 TI.hz5 TI.hs5 TI.hby5 TI.hzs5 (by decide) rfl rfl rfl rfl (fun _ h => blk_all h (pubY_length nm q seed y.2)) (bs_one _) (by unfold maxLen; simp [hdL_length hn, hyl] <;> omega) (by simp [hdL_length hn, hyl] <;> omega) (fun v30 => ?_)))))
            refine WL_turn (P' := rowB 5 v30 (hdL nm q ++ [128, 128] ++ rowsC (pubY nm q seed) (y.2 + 1))) 200 rfl (fun h hp => rowB_mk hp (rows_len (pubY_length _ _ _ _)) (rows_step _ (pubY nm q seed) y.2)) ?_
            refine (WL_pure rfl rfl (by decide) (Pu_assign rfl rfl) (WL_nil (X_block (X_then ?_))))
            refine W.pre (K' := [(1, _), (3, _), (5, _), (6, _), (7, _), (8, _), (9, _), (16, _)]) (L' := [(0, _), (101, _), (102, _), (103, _), (200, _), (401, _)]) ?_ ⟨rfl, ⟨rfl, ⟨rfl, ⟨rfl, ⟨rfl, ⟨rfl, ⟨rfl, ⟨rfl, trivial⟩⟩⟩⟩⟩⟩⟩⟩ ⟨rfl, ⟨rfl, ⟨rfl, ⟨rfl, ⟨rfl, ⟨rfl, trivial⟩⟩⟩⟩⟩⟩
            refine W_regL (WL_pure rfl rfl (by decide) (Pu_move rfl rfl) (WL_pure rfl rfl (by decide) (Pu_bin rfl rfl rfl (run_add _ _ _ _ _ (by omega))) (WL_pure rfl rfl (by decide) (Pu_assign rfl rfl) (WL_nil ?_))))
            exact X_round (v30, y.2 + 1) (by dsimp only; omega) (by show 133 - (y.2 + 1) < 133 - y.2; omega) ⟨rfl, rfl, rfl, rfl, rfl, rfl, trivial⟩ ⟨rfl, rfl, rfl, rfl, rfl, trivial⟩
          exact AHs_nil
        exact AHs_nil
      refine AHs_cons rfl rfl rfl (by decide) (OpT_alloc (r := 301) (cs := (bs zeroId)) rfl (zero_run (by kernel_rfl : (Try.prog.info? 29).bind (·.zero) = some (.agg (bs zeroId).toArray))) rfl (fun g301 => ⟨⟨rfl, ⟨rfl, ⟨rfl, ⟨rfl, trivial⟩⟩⟩⟩, ?_⟩)) ?_
      ·
        refine (AH_ready [8] (by kernel_rfl) (by decide) ?_)
        refine AHs_cons rfl rfl rfl (by decide) (OpT_call 400 [0, 101, 102, 103, 200, 301] [] rfl Try.call59 rfl rfl rfl (by decide) (by decide) (walk5_spec nm hn q y.2 0 3 (by omega) (by omega) (hashC nm q (y.2 : Int) 255 seed) (hashC_length _ _ _ _ _) _) (fun v27 Ps27 hR27 => ?_)) ?_
        ·
          obtain ⟨rfl, rfl⟩ := hR27
          refine ⟨⟨rfl, ⟨rfl, ⟨rfl, ⟨rfl, trivial⟩⟩⟩⟩, ?_⟩
          refine (AH_ready [10] (by kernel_rfl) (by decide) ?_)
          refine AHs_cons0 rfl rfl rfl (OpT_storeAll (r := 301) rfl Try.sizeOf29 rfl rfl rfl rfl ((bs_length _).trans (pubY_length nm q seed y.2)) (bs_one _) ?_) ?_
          ·
            refine ⟨⟨rfl, ⟨rfl, ⟨rfl, ⟨rfl, trivial⟩⟩⟩⟩, ?_⟩
            refine (AH_done (by kernel_rfl) (X_then ?_))
            refine W.pre (K' := [(1, _), (3, _), (5, _), (6, _), (7, _), (8, _), (9, _), (16, _)]) (L' := [(0, _), (101, _), (102, _), (103, _), (200, _), (301, _)]) ?_ ⟨rfl, ⟨rfl, ⟨rfl, ⟨rfl, ⟨rfl, ⟨rfl, ⟨rfl, ⟨rfl, trivial⟩⟩⟩⟩⟩⟩⟩⟩ ⟨rfl, ⟨rfl, ⟨rfl, ⟨rfl, ⟨rfl, ⟨rfl, trivial⟩⟩⟩⟩⟩⟩
            refine W_regL (WL_pure rfl rfl (by decide) (Pu_move rfl rfl) (WL_pure rfl rfl (by decide) (Pu_sliceArr rfl Try.runUnderlying29 Try.sizeOf5 rfl) (WL_cons rfl rfl (by decide) (OpT_append (r := 200) (r2 := 301) rfl Try.underlying30 TI.hi5 TI.hz5 TI.hs5 TI.hby5 TI.hzs5 (by decide) rfl rfl rfl rfl (fun _ h => blk_all h (pubY_length nm q seed y.2)) (bs_one _) (by unfold maxLen; simp [hdL_length hn, hyl] <;> omega) (by simp [hdL_length hn, hyl] <;> omega) (fun v30 => ?_)))))
            refine WL_turn (P' := rowB 5 v30 (hdL nm q ++ [128, 128] ++ rowsC (pubY nm q seed) (y.2 + 1))) 200 rfl (fun h hp => rowB_mk hp (rows_len (pubY_length _ _ _ _)) (rows_step _ (pubY nm q seed) y.2)) ?_
            refine (WL_pure rfl rfl (by decide) (Pu_assign rfl rfl) (WL_nil (X_block (X_then ?_))))
            refine W.pre (K' := [(1, _), (3, _), (5, _), (6, _), (7, _), (8, _), (9, _), (16, _)]) (L' := [(0, _), (101, _), (102, _), (103, _), (200, _), (301, _)]) ?_ ⟨rfl, ⟨rfl, ⟨rfl, ⟨rfl, ⟨rfl, ⟨rfl, ⟨rfl, ⟨rfl, trivial⟩⟩⟩⟩⟩⟩⟩⟩ ⟨rfl, ⟨rfl, ⟨rfl, ⟨rfl, ⟨rfl, ⟨rfl, trivial⟩⟩⟩⟩⟩⟩
            refine W_regL (WL_pure rfl rfl (by decide) (Pu_move rfl rfl) (WL_pure rfl rfl (by decide) (Pu_bin rfl rfl rfl (run_add _ _ _ _ _ (by omega))) (WL_pure rfl rfl (by decide) (Pu_assign rfl rfl) (WL_nil ?_))))
            exact X_round (v30, y.2 + 1) (by dsimp only; omega) (by show 133 - (y.2 + 1) < 133 - y.2; omega) ⟨rfl, rfl, rfl, rfl, rfl, rfl, trivial⟩ ⟨rfl, rfl, rfl, rfl, rfl, trivial⟩
          exact AHs_nil
        exact AHs_nil
      exact AHs_nil
    refine AHs_cons rfl rfl rfl (by decide) (OpT_alloc (r := 202) (cs := (bs zeroId)) rfl (zero_run (by kernel_rfl : (Try.prog.info? 29).bind (·.zero) = some (.agg (bs zeroId).toArray))) rfl (fun g202 => ⟨⟨rfl, ⟨rfl, ⟨rfl, ⟨rfl, trivial⟩⟩⟩⟩, ?_⟩)) ?_
    ·
      refine (AH_ready [7] (by kernel_rfl) (by decide) ?_)
      refine AHs_cons rfl rfl rfl (by decide) (OpT_call 300 [0, 101, 102, 103, 200, 202] [] rfl Try.call60 rfl rfl rfl (by decide) (by decide) (secret5_spec nm hn q (y.2 : Int) seed hs _) (fun v26 Ps26 hR26 => ?_)) ?_
      ·
        obtain ⟨rfl, rfl⟩ := hR26
        refine ⟨⟨rfl, ⟨rfl, ⟨rfl, ⟨rfl, trivial⟩⟩⟩⟩, ?_⟩
        refine (AH_ready [8] (by kernel_rfl) (by decide) ?_)
        refine AHs_cons rfl rfl rfl (by decide) (OpT_call 400 [0, 101, 102, 103, 200, 202] [] rfl Try.call59 rfl rfl rfl (by decide) (by decide) (walk5_spec nm hn q y.2 0 3 (by omega) (by omega) (hashC nm q (y.2 : Int) 255 seed) (hashC_length _ _ _ _ _) _) (fun v27 Ps27 hR27 => ?_)) ?_
        ·
          obtain ⟨rfl, rfl⟩ := hR27
          refine ⟨⟨rfl, ⟨rfl, ⟨rfl, ⟨rfl, trivial⟩⟩⟩⟩, ?_⟩
          refine (AH_ready [10] (by kernel_rfl) (by decide) ?_)
          refine AHs_cons0 rfl rfl rfl (OpT_storeAll (r := 202) rfl Try.sizeOf29 rfl rfl rfl rfl ((bs_length _).trans (pubY_length nm q seed y.2)) (bs_one _) ?_) ?_
          ·
            refine ⟨⟨rfl, ⟨rfl, ⟨rfl, ⟨rfl, trivial⟩⟩⟩⟩, ?_⟩
            refine (AH_done (by kernel_rfl) (X_then ?_))
            refine W.pre (K' := [(1, _), (3, _), (5, _), (6, _), (7, _), (8, _), (9, _), (16, _)]) (L' := [(0, _), (101, _), (102, _), (103, _), (200, _), (202, _)]) ?_ ⟨rfl, ⟨rfl, ⟨rfl, ⟨rfl, ⟨rfl, ⟨rfl, ⟨rfl, ⟨rfl, trivial⟩⟩⟩⟩⟩⟩⟩⟩ ⟨rfl, ⟨rfl, ⟨rfl, ⟨rfl, ⟨rfl, ⟨rfl, trivial⟩⟩⟩⟩⟩⟩
            refine W_regL (WL_pure rfl rfl (by decide) (Pu_move rfl rfl) (WL_pure rfl rfl (by decide) (Pu_sliceArr rfl Try.runUnderlying29 Try.sizeOf5 rfl) (WL_cons rfl rfl (by decide) (OpT_append (r := 200) (r2 := 202) rfl Try.underlying30 TI.hi5 TI.hz5 TI.hs5 TI.hby5 TI.hzs5 (by decide) rfl rfl rfl rfl (fun _ h => blk_all h (pubY_length nm q seed y.2)) (bs_one _) (by unfold maxLen; simp [hdL_length hn, hyl] <;> omega) (by simp [hdL_length hn, hyl] <;> omega) (fun v30 => ?_)))))
            refine WL_turn (P' := rowB 5 v30 (hdL nm q ++ [128, 128] ++ rowsC (pubY nm q seed) (y.2 + 1))) 200 rfl (fun h hp => rowB_mk hp (rows_len (pubY_length _ _ _ _)) (rows_step _ (pubY nm q seed) y.2)) ?_
            refine (WL_pure rfl rfl (by decide) (Pu_assign rfl rfl) (WL_nil (X_block (X_then ?_))))
            refine W.pre (K' := [(1, _), (3, _), (5, _), (6, _), (7, _), (8, _), (9, _), (16, _)]) (L' := [(0, _), (101, _), (102, _), (103, _), (200, _), (202, _)]) ?_ ⟨rfl, ⟨rfl, ⟨rfl, ⟨rfl, ⟨rfl, ⟨rfl, ⟨rfl, ⟨rfl, trivial⟩⟩⟩⟩⟩⟩⟩⟩ ⟨rfl, ⟨rfl, ⟨rfl, ⟨rfl, ⟨rfl, ⟨rfl, trivial⟩⟩⟩⟩⟩⟩
            refine W_regL (WL_pure rfl rfl (by decide) (Pu_move rfl rfl) (WL_pure rfl rfl (by decide) (Pu_bin rfl rfl rfl (run_add _ _ _ _ _ (by omega))) (WL_pure rfl rfl (by decide) (Pu_assign rfl rfl) (WL_nil ?_))))
            exact X_round (v30, y.2 + 1) (by dsimp only; omega) (by show 133 - (y.2 + 1) < 133 - y.2; omega) ⟨rfl, rfl, rfl, rfl, rfl, rfl, trivial⟩ ⟨rfl, rfl, rfl, rfl, rfl, trivial⟩
          exact AHs_nil
        exact AHs_nil
      exact AHs_nil
    exact AHs_nil
  ·
    have hye : y.2 = 133 := by have := of_decide_eq_false hc16; omega
    rw [hye] at hyl ⊢
    refine W_exit (X_then_exit (X_then_exit (X_block_exit (X_then ?_))))
    refine W_seq ?_
    refine W.pre (K' := [(1, _), (3, _), (5, _), (6, _), (7, _), (8, _), (16, _)]) (L' := [(0, _), (101, _), (102, _), (103, _), (200, _)]) ?_ ⟨rfl, ⟨rfl, ⟨rfl, ⟨rfl, ⟨rfl, ⟨rfl, ⟨rfl, trivial⟩⟩⟩⟩⟩⟩⟩ ⟨rfl, ⟨rfl, ⟨rfl, ⟨rfl, ⟨rfl, trivial⟩⟩⟩⟩⟩
    refine W_regL (WL_pure rfl rfl (by decide) (Pu_move rfl rfl) (WL_cons rfl rfl (by decide) (OpT_call 300 [0, 101, 102, 103, 200] [] rfl Try.call14 rfl rfl rfl (by decide) (by decide) (refSum_spec y.1 (hdL nm q ++ [128, 128] ++ rowsC (pubY nm q seed) 133) (by simp [hdL_length hn, hyl]) _ (rd_star 4 rfl rowB_rd)) (fun v32 Ps32 hR32 => ?_))))
    obtain ⟨rfl, rfl⟩ := hR32
    refine (WL_cons0 rfl rfl (OpT_storeAll (r := 103) rfl Try.sizeOf29 rfl rfl rfl rfl ((bs_length _).trans (sha_length _)) (bs_one _) ?_))
    refine (WL_nil (X_then ?_))
    refine W_ret ?_
    exact X_ret [] (Ps := []) (resC1 (r := 103) Try.results54 rfl Try.isAgg29 Try.sizeOf29 rfl ((bs_length _).trans (sha_length _))) rfl (by decide) ⟨rfl, rfl⟩
theorem digits5_spec (nm : List UInt8) (hn : nm.length = 16) (q : Int) (cv mv : Value) (c msg : List UInt8) (hcl : c.length ≤ 1000000) (hml : msg.length ≤ 1000000) (F : HP) (hc : ∀ h, F h → rdB cv c h) (hm : ∀ h, F h → rdB mv msg h) : CallsS Try.prog 57 #[idV nm, .int .i64 q, cv, mv] F [] (fun r Ps => r = nsV (digL (digB2 nm q c msg)) ∧ Ps = []) := by
  refine callsS_enter Try.func57 rfl Try.ntmps57 (by simp) (fun E => ?_)
  refine W_seq ?_
  refine W.pre (K' := [(0, _), (1, _), (2, _), (3, _)]) (L' := [(0, _)]) ?_ ⟨rfl, ⟨rfl, ⟨rfl, ⟨rfl, trivial⟩⟩⟩⟩ ⟨rfl, trivial⟩
  refine W_regL (WL_cons rfl rfl (by decide) (OpT_box (r := 101) rfl rfl rfl (fun g101 => (WL_cons rfl rfl (by decide) (OpT_alloc (r := 102) (cs := (nsC (List.replicate 133 0))) rfl (zero_run (by kernel_rfl : (Try.prog.info? 99).bind (·.zero) = some (nsV (List.replicate 133 0)))) rfl (fun g102 => (WL_nil (X_then ?_))))))))
  refine W_seq ?_
  refine W.pre (K' := [(0, _), (1, _), (2, _), (3, _), (4, _), (8, _)]) (L' := [(0, _), (101, _), (102, _)]) ?_ ⟨rfl, ⟨rfl, ⟨rfl, ⟨rfl, ⟨rfl, ⟨rfl, trivial⟩⟩⟩⟩⟩⟩ ⟨rfl, ⟨rfl, ⟨rfl, trivial⟩⟩⟩
  refine W_regL (WL_pure rfl rfl (by decide) (Pu_loadBN (r := 101) rfl Try.isAgg52 Try.sizeOf52 rfl rfl ((bs_length _).trans hn) (load_all ((bs_length _).trans hn))) (WL_pure rfl rfl (by decide) (Pu_move rfl rfl) (WL_cons rfl rfl (by decide) (OpT_call 200 [0, 101, 102] [] rfl Try.call56 rfl rfl rfl (by decide) (by decide) (head5_spec nm hn q _) (fun v17 Ps17 hR17 => ?_)))))
  subst hR17
  refine (WL_cons rfl rfl (by decide) (OpT_buildOnes (r := 201) (bs [129, 129]) rfl rfl Try.runUnderlying30 Try.sizeOf5 Try.zeroValue5 rfl rfl (by decide) rfl (bs_cells _) (fun v18 => (WL_cons rfl rfl (by decide) (OpT_append (r := 200) (r2 := 201) rfl Try.underlying30 TI.hi5 TI.hz5 TI.hs5 TI.hby5 TI.hzs5 (by decide) rfl rfl rfl rfl (fun _ h => rowP_rd h) (bs_one _) (by unfold maxLen; simp [hdL_length hn, numB_length, *] <;> omega) (by simp [hdL_length hn, numB_length, *] <;> omega) (fun v19 => ?_))))))
  refine WL_turn (P' := rowB 5 v19 (hdL nm q ++ [129, 129])) 200 rfl (fun h hp => rowB_mk hp (by simp [hdL_length hn, numB_length, *] <;> omega) (by simp only [bs_append])) ?_
  refine (WL_pure rfl rfl (by decide) (Pu_move rfl rfl) (WL_cons rfl rfl (by decide) (OpT_append (r := 200) (r2 := 0) rfl Try.underlying30 TI.hi5 TI.hz5 TI.hs5 TI.hby5 TI.hzs5 (by decide) rfl rfl rfl rfl hc (bs_one _) (by unfold maxLen; simp [hdL_length hn, numB_length, *] <;> omega) (by simp [hdL_length hn, numB_length, *] <;> omega) (fun v21 => ?_))))
  refine WL_turn (P' := rowB 5 v21 (hdL nm q ++ [129, 129] ++ c)) 200 rfl (fun h hp => rowB_mk hp (by simp [hdL_length hn, numB_length, *] <;> omega) (by simp only [bs_append])) ?_
  refine (WL_pure rfl rfl (by decide) (Pu_move rfl rfl) (WL_cons rfl rfl (by decide) (OpT_append (r := 200) (r2 := 0) rfl Try.underlying30 TI.hi5 TI.hz5 TI.hs5 TI.hby5 TI.hzs5 (by decide) rfl rfl rfl rfl hm (bs_one _) (by unfold maxLen; simp [hdL_length hn, numB_length, *] <;> omega) (by simp [hdL_length hn, numB_length, *] <;> omega) (fun v23 => ?_))))
  refine WL_turn (P' := rowB 5 v23 (hdL nm q ++ [129, 129] ++ c ++ msg)) 200 rfl (fun h hp => rowB_mk hp (by simp [hdL_length hn, numB_length, *] <;> omega) (by simp only [bs_append])) ?_
  refine (WL_cons rfl rfl (by decide) (OpT_call 300 [0, 101, 102, 200, 201] [] rfl Try.call14 rfl rfl rfl (by decide) (by decide) (refSum_spec v23 (hdL nm q ++ [129, 129] ++ c ++ msg) (by simp [hdL_length hn, *] <;> omega) _ (rd_star 3 rfl rowB_rd)) (fun v24 Ps24 hR24 => ?_)))
  obtain ⟨rfl, rfl⟩ := hR24
  refine (WL_cons rfl rfl (by decide) (OpT_alloc (r := 301) (cs := (bs zeroId)) rfl (zero_run (by kernel_rfl : (Try.prog.info? 29).bind (·.zero) = some (.agg (bs zeroId).toArray))) rfl (fun g301 => (WL_cons0 rfl rfl (OpT_storeAll (r := 301) rfl Try.sizeOf29 rfl rfl rfl rfl ((bs_length _).trans (sha_length _)) (bs_one _) ?_)))))
  refine (WL_nil (X_then ?_))
  refine W_seq ?_
  refine W.pre (K' := [(0, _), (1, _), (2, _), (3, _), (4, _), (8, _), (9, _)]) (L' := [(0, _), (101, _), (102, _), (200, _), (201, _), (301, _)]) ?_ ⟨rfl, ⟨rfl, ⟨rfl, ⟨rfl, ⟨rfl, ⟨rfl, ⟨rfl, trivial⟩⟩⟩⟩⟩⟩⟩ ⟨rfl, ⟨rfl, ⟨rfl, ⟨rfl, ⟨rfl, ⟨rfl, trivial⟩⟩⟩⟩⟩⟩
  refine W_regL (WL_cons rfl rfl (by decide) (OpT_buildOnes (r := 302) (bs []) rfl rfl Try.runUnderlying30 Try.sizeOf5 Try.zeroValue5 rfl rfl (by decide) rfl (bs_cells _) (fun v25 => (WL_pure rfl rfl (by decide) (Pu_sliceArr rfl Try.runUnderlying29 Try.sizeOf5 rfl) (WL_cons rfl rfl (by decide) (OpT_append (r := 302) (r2 := 301) rfl Try.underlying30 TI.hi5 TI.hz5 TI.hs5 TI.hby5 TI.hzs5 (by decide) rfl rfl rfl rfl (fun _ h => blk_all h (sha_length _)) (bs_one _) (by unfold maxLen; omega) (by omega) (fun v27 => ?_)))))))
  refine WL_turn (P' := rowB 5 v27 (digB nm q c msg)) 302 rfl (fun h hp => rowB_mk hp (by unfold digB; simp [sha_length]) (by unfold digB; simp [bs])) ?_
  refine (WL_pure rfl rfl (by decide) (Pu_assign rfl rfl) (WL_nil (X_then ?_)))
  refine W_seq ?_
  refine W.pre (K' := [(0, _), (1, _), (2, _), (3, _), (4, _), (8, _), (9, _), (10, _)]) (L' := [(0, _), (101, _), (102, _), (200, _), (201, _), (301, _), (302, _)]) ?_ ⟨rfl, ⟨rfl, ⟨rfl, ⟨rfl, ⟨rfl, ⟨rfl, ⟨rfl, ⟨rfl, trivial⟩⟩⟩⟩⟩⟩⟩⟩ ⟨rfl, ⟨rfl, ⟨rfl, ⟨rfl, ⟨rfl, ⟨rfl, ⟨rfl, trivial⟩⟩⟩⟩⟩⟩⟩
  refine W_regL (WL_pure rfl rfl (by decide) (Pu_assign rfl rfl) (WL_nil (X_then ?_)))
  refine W_seq ?_
  refine W_seq ?_
  refine W.pre (K' := [(0, _), (1, _), (2, _), (3, _), (4, _), (8, _), (9, _), (10, _), (11, _)]) (L' := [(0, _), (101, _), (102, _), (200, _), (201, _), (301, _), (302, _)]) ?_ ⟨rfl, ⟨rfl, ⟨rfl, ⟨rfl, ⟨rfl, ⟨rfl, ⟨rfl, ⟨rfl, ⟨rfl, trivial⟩⟩⟩⟩⟩⟩⟩⟩⟩ ⟨rfl, ⟨rfl, ⟨rfl, ⟨rfl, ⟨rfl, ⟨rfl, ⟨rfl, trivial⟩⟩⟩⟩⟩⟩⟩
  refine W_regL (WL_pure rfl rfl (by decide) (Pu_assign rfl rfl) (WL_nil (X_then ?_)))
  refine W_block ?_
  have hdl : (digB nm q c msg).length = 32 := sha_length _
  refine W_loop (α := Nat) (fun x => [(8, .pointer (some ⟨g102, 0, none⟩)), (10, v27), (11, .int .i64 (digSum (digB nm q c msg) x : Int)), (12, .int .i64 (x : Int))]) (fun x => [(0, F), (102, blk g102 99 (nsC (List.replicate 133 0))), (302, rowB 5 v27 (digB nm q c msg))]) (fun x => x ≤ 128) (fun x => 128 - x) (0) (by omega) ⟨rfl, ⟨rfl, ⟨rfl, ⟨rfl, trivial⟩⟩⟩⟩ ⟨rfl, ⟨rfl, ⟨rfl, trivial⟩⟩⟩ (fun x hx => ?_)
  have hds := digSum_le (digB nm q c msg) x
  refine W_seq ?_
  refine W_seq ?_
  refine W.pre (K' := [(8, _), (10, _), (11, _), (12, _)]) (L' := [(0, _), (102, _), (302, _)]) ?_ ⟨rfl, ⟨rfl, ⟨rfl, ⟨rfl, trivial⟩⟩⟩⟩ ⟨rfl, ⟨rfl, ⟨rfl, trivial⟩⟩⟩
  refine W_regL (WL_pure rfl rfl (by decide) (Pu_move rfl rfl) (WL_pure rfl rfl (by decide) (Pu_bin rfl rfl rfl (run_lss _ _ _ _ _ _)) (WL_nil (X_then ?_))))
  refine W_cond rfl (fun hc29 => ?_) (fun hc29 => ?_)
  ·
    have hlt : x < 128 := by have := of_decide_eq_true hc29; omega
    have hdx := dig_lt (digB nm q c msg) x
    refine W_skip (X_then ?_)
    refine W_seq ?_
    refine W_block ?_
    refine W.pre (K' := [(8, _), (10, _), (11, _), (12, _), (29, _)]) (L' := [(0, _), (102, _), (302, _)]) ?_ ⟨rfl, ⟨rfl, ⟨rfl, ⟨rfl, ⟨rfl, trivial⟩⟩⟩⟩⟩ ⟨rfl, ⟨rfl, ⟨rfl, trivial⟩⟩⟩
    refine W_regL (WL_pure rfl rfl (by decide) (Pu_move rfl rfl) (WL_pure rfl rfl (by decide) (Pu_bin rfl rfl rfl (run_add _ _ _ _ _ (by omega))) (WL_pure rfl rfl (by decide) (Pu_move rfl rfl) (WL_pure rfl rfl (by decide) (Pu_move rfl rfl) (WL_cons rfl rfl (by decide) (OpT_call 400 [0, 102, 302] [] rfl Try.call71 rfl rfl rfl (by decide) (by decide) (digit5_spec v27 (digB nm q c msg) x (by omega) (by omega) _ (rd_star 2 rfl rowB_rd)) (fun v36 Ps36 hR36 => ?_)))))))
    obtain ⟨rfl, rfl⟩ := hR36
    refine (WL_pure rfl rfl (by decide) (Pu_bin rfl rfl rfl (run_sub _ _ _ _ _ (by omega))) (WL_pure rfl rfl (by decide) (Pu_assign rfl rfl) (WL_nil (X_block (X_then ?_)))))
    refine W.pre (K' := [(8, _), (10, _), (11, _), (12, _), (29, _)]) (L' := [(0, _), (102, _), (302, _)]) ?_ ⟨rfl, ⟨rfl, ⟨rfl, ⟨rfl, ⟨rfl, trivial⟩⟩⟩⟩⟩ ⟨rfl, ⟨rfl, ⟨rfl, trivial⟩⟩⟩
    refine W_regL (WL_pure rfl rfl (by decide) (Pu_move rfl rfl) (WL_pure rfl rfl (by decide) (Pu_bin rfl rfl rfl (run_add _ _ _ _ _ (by omega))) (WL_pure rfl rfl (by decide) (Pu_assign rfl rfl) (WL_nil ?_))))
    exact X_round (x + 1) (by omega) (by omega) ⟨rfl, rfl, lookV_eq rfl (int_eq (by have := dig_lt (digB nm q c msg) x; rw [digSum]; omega)), rfl, trivial⟩ ⟨rfl, rfl, rfl, trivial⟩
  ·
    obtain rfl : x = 128 := by have := of_decide_eq_false hc29; omega
    refine W_exit (X_then_exit (X_then_exit (X_block_exit (X_then ?_))))
    refine W_seq ?_
    refine W.pre (K' := [(8, _), (10, _), (11, _), (12, _), (29, _)]) (L' := [(0, _), (102, _), (302, _)]) ?_ ⟨rfl, ⟨rfl, ⟨rfl, ⟨rfl, ⟨rfl, trivial⟩⟩⟩⟩⟩ ⟨rfl, ⟨rfl, ⟨rfl, trivial⟩⟩⟩
    refine W_regL (WL_pure rfl rfl (by decide) (Pu_move rfl rfl) (WL_pure rfl rfl (by decide) (Pu_move rfl rfl) (WL_pure rfl rfl (by decide) (Pu_bin rfl rfl rfl (run_mul _ _ _ _ _ (by omega))) (WL_cons rfl rfl (by decide) (OpT_call 400 [0, 102] [302] rfl Try.call55 rfl rfl rfl (by decide) (by decide) (two5_spec _ rfl v27 (digB nm q c msg) (64 * (digSum (digB nm q c msg) 128 : Int)) (by omega) _) (fun v41 Ps41 hR41 => ?_))))))
    subst hR41
    refine WL_turn (P' := rowB 5 v41 (digB2 nm q c msg)) 400 rfl (fun h hp => by unfold digB2; rw [Int.natCast_mul]; exact hp) ?_
    refine (WL_pure rfl rfl (by decide) (Pu_assign rfl rfl) (WL_nil (X_then ?_)))
    refine W_seq ?_
    refine W.pre (K' := [(8, _), (10, _), (11, _), (12, _), (29, _)]) (L' := [(0, _), (102, _), (400, _)]) ?_ ⟨rfl, ⟨rfl, ⟨rfl, ⟨rfl, ⟨rfl, trivial⟩⟩⟩⟩⟩ ⟨rfl, ⟨rfl, ⟨rfl, trivial⟩⟩⟩
    refine W_regL (WL_cons rfl rfl (by decide) (OpT_alloc (r := 401) (cs := (nsC (List.replicate 133 0))) rfl (zero_run (by kernel_rfl : (Try.prog.info? 99).bind (·.zero) = some (nsV (List.replicate 133 0)))) rfl (fun g401 => (WL_nil (X_then ?_)))))
    refine W_seq ?_
    refine W_seq ?_
    refine W.pre (K' := [(8, _), (10, _), (11, _), (12, _), (13, _), (29, _)]) (L' := [(0, _), (102, _), (400, _), (401, _)]) ?_ ⟨rfl, ⟨rfl, ⟨rfl, ⟨rfl, ⟨rfl, ⟨rfl, trivial⟩⟩⟩⟩⟩⟩ ⟨rfl, ⟨rfl, ⟨rfl, ⟨rfl, trivial⟩⟩⟩⟩
    refine W_regL (WL_pure rfl rfl (by decide) (Pu_assign rfl rfl) (WL_nil (X_then ?_)))
    refine W_block ?_
    have hd2 := digB2_length nm q c msg
    refine W_loop (α := Nat) (fun x => [(8, .pointer (some ⟨g102, 0, none⟩)), (10, v41), (13, .pointer (some ⟨g401, 0, none⟩)), (14, .int .i64 (x : Int))]) (fun x => [(0, F), (102, blk g102 99 (nsC (List.replicate 133 0))), (400, rowB 5 v41 (digB2 nm q c msg)), (401, blk g401 99 (nsC (digZ (digB2 nm q c msg) x)))]) (fun x => x ≤ 133) (fun x => 133 - x) (0) (by omega) ⟨rfl, ⟨rfl, ⟨rfl, ⟨rfl, trivial⟩⟩⟩⟩ ⟨rfl, rfl, rfl, look_eq rfl (by rw [digZ_get0]; rfl), trivial⟩ (fun x hx => ?_)
    have hzl := digZ_length (digB2 nm q c msg) hx
    refine W_seq ?_
    refine W_seq ?_
    refine W.pre (K' := [(8, _), (10, _), (13, _), (14, _)]) (L' := [(0, _), (102, _), (400, _), (401, _)]) ?_ ⟨rfl, ⟨rfl, ⟨rfl, ⟨rfl, trivial⟩⟩⟩⟩ ⟨rfl, ⟨rfl, ⟨rfl, ⟨rfl, trivial⟩⟩⟩⟩
    refine W_regL (WL_pure rfl rfl (by decide) (Pu_move rfl rfl) (WL_pure rfl rfl (by decide) (Pu_bin rfl rfl rfl (run_lss _ _ _ _ _ _)) (WL_nil (X_then ?_))))
    refine W_cond rfl (fun hc43 => ?_) (fun hc43 => ?_)
    ·
      have hlt : x < 133 := by have := of_decide_eq_true hc43; omega
      refine W_skip (X_then ?_)
      refine W_seq ?_
      refine W_block ?_
      refine W.pre (K' := [(8, _), (10, _), (13, _), (14, _), (43, _)]) (L' := [(0, _), (102, _), (400, _), (401, _)]) ?_ ⟨rfl, ⟨rfl, ⟨rfl, ⟨rfl, ⟨rfl, trivial⟩⟩⟩⟩⟩ ⟨rfl, ⟨rfl, ⟨rfl, ⟨rfl, trivial⟩⟩⟩⟩
      refine W_regL (WL_pure rfl rfl (by decide) (Pu_move rfl rfl) (WL_pure rfl rfl (by decide) (Pu_move rfl rfl) (WL_pure rfl rfl (by decide) (Pu_move rfl rfl) (WL_cons rfl rfl (by decide) (OpT_call 500 [0, 102, 400, 401] [] rfl Try.call71 rfl rfl rfl (by decide) (by decide) (digit5_spec v41 (digB2 nm q c msg) x (by omega) (by omega) _ (rd_star 2 rfl rowB_rd)) (fun v49 Ps49 hR49 => ?_))))))
      obtain ⟨rfl, rfl⟩ := hR49
      refine (WL_pure rfl rfl (by decide) (Pu_idxA rfl Try.runUnderlying99 Try.sizeOf3 rfl rfl (by omega)) (WL_cons0 rfl rfl (OpT_storeB1 (r := 401) rfl Try.sizeOf3 rfl rfl rfl rfl (by rw [nsC_length, hzl]; omega) ((congrArg (fun q => List.set _ q _) (Nat.zero_add _)).trans (digZ_set _ hlt)) ?_)))
      refine (WL_nil (X_block (X_then ?_)))
      refine W.pre (K' := [(8, _), (10, _), (13, _), (14, _), (43, _)]) (L' := [(0, _), (102, _), (400, _), (401, _)]) ?_ ⟨rfl, ⟨rfl, ⟨rfl, ⟨rfl, ⟨rfl, trivial⟩⟩⟩⟩⟩ ⟨rfl, ⟨rfl, ⟨rfl, ⟨rfl, trivial⟩⟩⟩⟩
      refine W_regL (WL_pure rfl rfl (by decide) (Pu_move rfl rfl) (WL_pure rfl rfl (by decide) (Pu_bin rfl rfl rfl (run_add _ _ _ _ _ (by omega))) (WL_pure rfl rfl (by decide) (Pu_assign rfl rfl) (WL_nil ?_))))
      exact X_round (x + 1) (by omega) (by omega) ⟨rfl, rfl, rfl, rfl, trivial⟩ ⟨rfl, rfl, rfl, rfl, trivial⟩
    ·
      obtain rfl : x = 133 := by have := of_decide_eq_false hc43; omega
      rw [digZ_full]
      have hll := digL_length (digB2 nm q c msg)
      refine W_exit (X_then_exit (X_then_exit (X_block_exit (X_then ?_))))
      refine W_seq ?_
      refine W.pre (K' := [(8, _), (10, _), (13, _), (14, _), (43, _)]) (L' := [(0, _), (102, _), (400, _), (401, _)]) ?_ ⟨rfl, ⟨rfl, ⟨rfl, ⟨rfl, ⟨rfl, trivial⟩⟩⟩⟩⟩ ⟨rfl, ⟨rfl, ⟨rfl, ⟨rfl, trivial⟩⟩⟩⟩
      refine W_regL (WL_pure rfl rfl (by decide) (Pu_loadBN (r := 401) rfl Try.isAgg99 Try.sizeOf99 rfl rfl ((nsC_length _).trans hll) (load_all ((nsC_length _).trans hll))) (WL_cons0 rfl rfl (OpT_storeAll (r := 102) rfl Try.sizeOf99 rfl rfl rfl rfl ((nsC_length _).trans hll) (nsC_one _) ?_)))
      refine (WL_nil (X_then ?_))
      refine W_ret ?_
      exact X_ret [] (Ps := []) (resC1 (r := 102) Try.results57 rfl Try.isAgg99 Try.sizeOf99 rfl ((nsC_length _).trans hll)) rfl (by decide) ⟨rfl, rfl⟩
theorem sign5_spec (nm : List UInt8) (hn : nm.length = 16) (q : Int) (seed : List UInt8) (hs : seed.length = 32) (mv : Value) (msg : List UInt8) (hml : msg.length ≤ 1000000) (F : HP) (hm : ∀ h, F h → rdB mv msg h) : CallsS Try.prog 38 #[idV nm, .int .i64 q, idV seed, mv] F [] (fun r Ps => Ps = [rowB 5 r (sgnO nm q seed msg)]) := by
  refine callsS_enter Try.func38 rfl Try.ntmps38 (by simp) (fun E => ?_)
  refine W_seq ?_
  refine W.pre (K' := [(0, _), (1, _), (2, _), (3, _)]) (L' := [(0, _)]) ?_ ⟨rfl, ⟨rfl, ⟨rfl, ⟨rfl, trivial⟩⟩⟩⟩ ⟨rfl, trivial⟩
  refine W_regL (WL_cons rfl rfl (by decide) (OpT_box (r := 101) rfl rfl rfl (fun g101 => (WL_cons rfl rfl (by decide) (OpT_box (r := 102) rfl rfl rfl (fun g102 => (WL_pure rfl rfl (by decide) (Pu_assign rfl rfl) (WL_nil (X_then ?_)))))))))
  refine W_cut (α := Nat) (fun z9 => [(1, .int .i64 q), (3, mv), (4, .pointer (some ⟨g101, 0, none⟩)), (6, .pointer (some ⟨g102, 0, none⟩)), (9, .pointer (some ⟨z9, 0, none⟩))]) (fun z9 => [(0, F), (101, blk g101 52 (bs nm)), (102, blk g102 29 (bs seed)), (181, blk z9 29 (bs (rndO nm q seed)))]) (fun z9 => True) ?_ (fun z9 _ => ?_)
  ·
    refine W.pre (K' := [(0, _), (1, _), (2, _), (3, _), (4, _), (6, _), (8, _)]) (L' := [(0, _), (101, _), (102, _)]) ?_ ⟨rfl, ⟨rfl, ⟨rfl, ⟨rfl, ⟨rfl, ⟨rfl, ⟨rfl, trivial⟩⟩⟩⟩⟩⟩⟩ ⟨rfl, ⟨rfl, ⟨rfl, trivial⟩⟩⟩
    refine W_draw (N := 11) (by kernel_rfl) rfl [(0, _), (101, _), (102, _)] ⟨rfl, ⟨rfl, ⟨rfl, trivial⟩⟩⟩ ?_
    refine (AH_take 0 rfl (by kernel_rfl) (by kernel_rfl) (by kernel_rfl) rfl rfl (by decide) (Pu_loadBN (r := 101) rfl Try.isAgg52 Try.sizeOf52 rfl rfl ((bs_length _).trans hn) (load_all ((bs_length _).trans hn))) (AH_take 1 rfl (by kernel_rfl) (by kernel_rfl) (by kernel_rfl) rfl rfl (by decide) (Pu_move rfl rfl) (AH_take 6 rfl (by kernel_rfl) (by kernel_rfl) (by kernel_rfl) rfl rfl (by decide) (Pu_sliceArr rfl Try.runUnderlying29 Try.sizeOf5 rfl) (AH_ready [2, 4, 9] (by kernel_rfl) (by decide) ?_))))
    refine AHs_cons rfl rfl rfl (by decide) (OpT_call 200 [0, 101, 102] [] rfl Try.call56 rfl rfl rfl (by decide) (by decide) (head5_spec nm hn q _) (fun v16 Ps16 hR16 => ?_)) ?_
    ·
      subst hR16
      refine ⟨⟨rfl, ⟨rfl, ⟨rfl, trivial⟩⟩⟩, ?_⟩
      refine (AH_ready [3, 4, 9] (by kernel_rfl) (by decide) ?_)
      refine AHs_cons rfl rfl rfl (by decide) (OpT_call 300 [0, 101, 102] [200] rfl Try.call55 rfl rfl rfl (by decide) (by decide) (two5_spec _ rfl _ (hdL nm q) 65533 (by rw [hdL_length hn]; omega) _) (fun v17 Ps17 hR17 => ?_)) ?_
      ·
        subst hR17
        refine ⟨⟨rfl, ⟨rfl, ⟨rfl, trivial⟩⟩⟩, ?_⟩
        refine (AH_ready [4, 9] (by kernel_rfl) (by decide) ?_)
        refine AHs_cons rfl rfl rfl (by decide) (OpT_buildOnes (r := 301) (bs [255]) rfl rfl Try.runUnderlying30 Try.sizeOf5 Try.zeroValue5 rfl rfl (by decide) rfl (bs_cells _) (fun v18 => ⟨⟨rfl, ⟨rfl, ⟨rfl, trivial⟩⟩⟩, ?_⟩)) ?_
        ·
          refine (AH_ready [5, 9] (by kernel_rfl) (by decide) ?_)
          refine AHs_cons rfl rfl rfl (by decide) (OpT_append (r := 300) (r2 := 301) rfl Try.underlying30 TI.hi5 TI.hz5 TI.hs5 TI.hby5 TI.hzs5 (by decide) rfl rfl rfl rfl (fun _ h => rowP_rd h) (bs_one _) (by unfold maxLen; simp [hdL_length hn, numB_length, *] <;> omega) (by simp [hdL_length hn, numB_length, *] <;> omega) (fun v19 => ?_)) ?_
          ·
            refine ⟨⟨rfl, ⟨rfl, ⟨rfl, trivial⟩⟩⟩, ?_⟩
            refine AH_turn (P' := rowB 5 v19 (hdL nm q ++ numB 65533 2 ++ [255])) 300 rfl (fun h hp => rowB_mk hp (by simp [hdL_length hn, numB_length, *] <;> omega) (by simp only [bs_append])) ?_
            refine (AH_ready [7, 9] (by kernel_rfl) (by decide) ?_)
            refine AHs_cons rfl rfl rfl (by decide) (OpT_append (r := 300) (r2 := 102) rfl Try.underlying30 TI.hi5 TI.hz5 TI.hs5 TI.hby5 TI.hzs5 (by decide) rfl rfl rfl rfl (fun _ h => blk_all h hs) (bs_one _) (by unfold maxLen; simp [hdL_length hn, numB_length, *] <;> omega) (by simp [hdL_length hn, numB_length, *] <;> omega) (fun v21 => ?_)) ?_
            ·
              refine ⟨⟨rfl, ⟨rfl, ⟨rfl, trivial⟩⟩⟩, ?_⟩
              refine AH_turn (P' := rowB 5 v21 (hdL nm q ++ numB 65533 2 ++ [255] ++ seed)) 300 rfl (fun h hp => rowB_mk hp (by simp [hdL_length hn, numB_length, *] <;> omega) (by simp only [bs_append])) ?_
              refine (AH_ready [8, 9] (by kernel_rfl) (by decide) ?_)
              refine AHs_cons rfl rfl rfl (by decide) (OpT_call 400 [0, 101, 102, 300, 301] [] rfl Try.call14 rfl rfl rfl (by decide) (by decide) (refSum_spec v21 (hdL nm q ++ numB 65533 2 ++ [255] ++ seed) (by simp [hdL_length hn, numB_length, *]) _ (rd_star 3 rfl rowB_rd)) (fun v22 Ps22 hR22 => ?_)) ?_
              ·
                obtain ⟨rfl, rfl⟩ := hR22
                refine ⟨⟨rfl, ⟨rfl, ⟨rfl, trivial⟩⟩⟩, ?_⟩
                refine (AH_ready [9] (by kernel_rfl) (by decide) ?_)
                refine AHs_cons rfl rfl rfl (by decide) (OpT_alloc (r := 401) (cs := (bs zeroId)) rfl (zero_run (by kernel_rfl : (Try.prog.info? 29).bind (·.zero) = some (.agg (bs zeroId).toArray))) rfl (fun g401 => ⟨⟨rfl, ⟨rfl, ⟨rfl, trivial⟩⟩⟩, ?_⟩)) ?_
                ·
                  refine (AH_ready [10] (by kernel_rfl) (by decide) ?_)
                  refine AHs_cons0 rfl rfl rfl (OpT_storeAll (r := 401) rfl Try.sizeOf29 rfl rfl rfl rfl ((bs_length _).trans (sha_length _)) (bs_one _) ?_) ?_
                  ·
                    refine ⟨⟨rfl, ⟨rfl, ⟨rfl, trivial⟩⟩⟩, ?_⟩
                    refine (AH_done (by kernel_rfl) ?_)
                    refine X_ren 401 181 rfl ?_
                    exact X_cut g401 trivial ⟨rfl, rfl, rfl, rfl, rfl, trivial⟩ ⟨rfl, rfl, rfl, rfl, trivial⟩
                  exact AHs_nil
                exact AHs_nil
              refine AHs_cons rfl rfl rfl (by decide) (OpT_alloc (r := 302) (cs := (bs zeroId)) rfl (zero_run (by kernel_rfl : (Try.prog.info? 29).bind (·.zero) = some (.agg (bs zeroId).toArray))) rfl (fun g302 => ⟨⟨rfl, ⟨rfl, ⟨rfl, trivial⟩⟩⟩, ?_⟩)) ?_
              ·
                refine (AH_ready [8] (by kernel_rfl) (by decide) ?_)
                refine AHs_cons rfl rfl rfl (by decide) (OpT_call 400 [0, 101, 102, 300, 301, 302] [] rfl Try.call14 rfl rfl rfl (by decide) (by decide) (refSum_spec v21 (hdL nm q ++ numB 65533 2 ++ [255] ++ seed) (by simp [hdL_length hn, numB_length, *]) _ (rd_star 3 rfl rowB_rd)) (fun v22 Ps22 hR22 => ?_)) ?_
                ·
                  obtain ⟨rfl, rfl⟩ := hR22
                  refine ⟨⟨rfl, ⟨rfl, ⟨rfl, trivial⟩⟩⟩, ?_⟩
                  refine (AH_ready [10] (by kernel_rfl) (by decide) ?_)
                  refine AHs_cons0 rfl rfl rfl (OpT_storeAll (r := 302) rfl Try.sizeOf29 rfl rfl rfl rfl ((bs_length _).trans (sha_length _)) (bs_one _) ?_) ?_
                  ·
                    refine ⟨⟨rfl, ⟨rfl, ⟨rfl, trivial⟩⟩⟩, ?_⟩
                    refine (AH_done (by kernel_rfl) ?_)
                    refine X_ren 302 181 rfl ?_
                    exact X_cut g302 trivial ⟨rfl, rfl, rfl, rfl, rfl, trivial⟩ ⟨rfl, rfl, rfl, rfl, trivial⟩
                  exact AHs_nil
                exact AHs_nil
              exact AHs_nil
            refine AHs_cons rfl rfl rfl (by decide) (OpT_alloc (r := 302) (cs := (bs zeroId)) rfl (zero_run (by kernel_rfl : (Try.prog.info? 29).bind (·.zero) = some (.agg (bs zeroId).toArray))) rfl (fun g302 => ⟨⟨rfl, ⟨rfl, ⟨rfl, trivial⟩⟩⟩, ?_⟩)) ?_
            ·
              refine (AH_ready [7] (by kernel_rfl) (by decide) ?_)
              refine AHs_cons rfl rfl rfl (by decide) (OpT_append (r := 300) (r2 := 102) rfl Try.underlying30 TI.hi5 TI.hz5 TI.hs5 TI.hby5 TI.hzs5 (by decide) rfl rfl rfl rfl (fun _ h => blk_all h hs) (bs_one _) (by unfold maxLen; simp [hdL_length hn, numB_length, *] <;> omega) (by simp [hdL_length hn, numB_length, *] <;> omega) (fun v21 => ?_)) ?_
              ·
                refine ⟨⟨rfl, ⟨rfl, ⟨rfl, trivial⟩⟩⟩, ?_⟩
                refine AH_turn (P' := rowB 5 v21 (hdL nm q ++ numB 65533 2 ++ [255] ++ seed)) 300 rfl (fun h hp => rowB_mk hp (by simp [hdL_length hn, numB_length, *] <;> omega) (by simp only [bs_append])) ?_
                refine (AH_ready [8] (by kernel_rfl) (by decide) ?_)
                refine AHs_cons rfl rfl rfl (by decide) (OpT_call 400 [0, 101, 102, 300, 301, 302] [] rfl Try.call14 rfl rfl rfl (by decide) (by decide) (refSum_spec v21 (hdL nm q ++ numB 65533 2 ++ [255] ++ seed) (by simp [hdL_length hn, numB_length, *]) _ (rd_star 3 rfl rowB_rd)) (fun v22 Ps22 hR22 => ?_)) ?_
                ·
                  obtain ⟨rfl, rfl⟩ := hR22
                  refine ⟨⟨rfl, ⟨rfl, ⟨rfl, trivial⟩⟩⟩, ?_⟩
                  refine (AH_ready [10] (by kernel_rfl) (by decide) ?_)
                  refine AHs_cons0 rfl rfl rfl (OpT_storeAll (r := 302) rfl Try.sizeOf29 rfl rfl rfl rfl ((bs_length _).trans (sha_length _)) (bs_one _) ?_) ?_
                  ·
                    refine ⟨⟨rfl, ⟨rfl, ⟨rfl, trivial⟩⟩⟩, ?_⟩
                    refine (AH_done (by kernel_rfl) ?_)
                    refine X_ren 302 181 rfl ?_
                    exact X_cut g302 trivial ⟨rfl, rfl, rfl, rfl, rfl, trivial⟩ ⟨rfl, rfl, rfl, rfl, trivial⟩
                  exact AHs_nil
                exact AHs_nil
              exact AHs_nil
            exact AHs_nil
          refine AHs_cons rfl rfl rfl (by decide) (OpT_alloc (r := 302) (cs := (bs zeroId)) rfl (zero_run (by kernel_rfl : (Try.prog.info? 29).bind (·.zero) = some (.agg (bs zeroId).toArray))) rfl (fun g302 => ⟨⟨rfl, ⟨rfl, ⟨rfl, trivial⟩⟩⟩, ?_⟩)) ?_
          ·
            refine (AH_ready [5] (by kernel_rfl) (by decide) ?_)
            refine AHs_cons rfl rfl rfl (by decide) (OpT_append (r := 300) (r2 := 301) rfl Try.underlying30 TI.hi5 TI.hz5 TI.hs5 TI.hby5 TI.hzs5 (by decide) rfl rfl rfl rfl (fun _ h => rowP_rd h) (bs_one _) (by unfold maxLen; simp [hdL_length hn, numB_length, *] <;> omega) (by simp [hdL_length hn, numB_length, *] <;> omega) (fun v19 => ?_)) ?_
            ·
              refine ⟨⟨rfl, ⟨rfl, ⟨rfl, trivial⟩⟩⟩, ?_⟩
              refine AH_turn (P' := rowB 5 v19 (hdL nm q ++ numB 65533 2 ++ [255])) 300 rfl (fun h hp => rowB_mk hp (by simp [hdL_length hn, numB_length, *] <;> omega) (by simp only [bs_append])) ?_
              refine (AH_ready [7] (by kernel_rfl) (by decide) ?_)
              refine AHs_cons rfl rfl rfl (by decide) (OpT_append (r := 300) (r2 := 102) rfl Try.underlying30 TI.hi5 TI.hz5 TI.hs5 TI.hby5 TI.hzs5 (by decide) rfl rfl rfl rfl (fun _ h => blk_all h hs) (bs_one _) (by unfold maxLen; simp [hdL_length hn, numB_length, *] <;> omega) (by simp [hdL_length hn, numB_length, *] <;> omega) (fun v21 => ?_)) ?_
              ·
                refine ⟨⟨rfl, ⟨rfl, ⟨rfl, trivial⟩⟩⟩, ?_⟩
                refine AH_turn (P' := rowB 5 v21 (hdL nm q ++ numB 65533 2 ++ [255] ++ seed)) 300 rfl (fun h hp => rowB_mk hp (by simp [hdL_length hn, numB_length, *] <;> omega) (by simp only [bs_append])) ?_
                refine (AH_ready [8] (by kernel_rfl) (by decide) ?_)
                refine AHs_cons rfl rfl rfl (by decide) (OpT_call 400 [0, 101, 102, 300, 301, 302] [] rfl Try.call14 rfl rfl rfl (by decide) (by decide) (refSum_spec v21 (hdL nm q ++ numB 65533 2 ++ [255] ++ seed) (by simp [hdL_length hn, numB_length, *]) _ (rd_star 3 rfl rowB_rd)) (fun v22 Ps22 hR22 => ?_)) ?_
                ·
                  obtain ⟨rfl, rfl⟩ := hR22
                  refine ⟨⟨rfl, ⟨rfl, ⟨rfl, trivial⟩⟩⟩, ?_⟩
                  refine (AH_ready [10] (by kernel_rfl) (by decide) ?_)
                  refine AHs_cons0 rfl rfl rfl (OpT_storeAll (r := 302) rfl Try.sizeOf29 rfl rfl rfl rfl ((bs_length _).trans (sha_length _)) (bs_one _) ?_) ?_
                  ·
                    refine ⟨⟨rfl, ⟨rfl, ⟨rfl, trivial⟩⟩⟩, ?_⟩
                    refine (AH_done (by kernel_rfl) ?_)
                    refine X_ren 302 181 rfl ?_
                    exact X_cut g302 trivial ⟨rfl, rfl, rfl, rfl, rfl, trivial⟩ ⟨rfl, rfl, rfl, rfl, trivial⟩
                  exact AHs_nil
                exact AHs_nil
              exact AHs_nil
            exact AHs_nil
          exact AHs_nil
        refine AHs_cons rfl rfl rfl (by decide) (OpT_alloc (r := 301) (cs := (bs zeroId)) rfl (zero_run (by kernel_rfl : (Try.prog.info? 29).bind (·.zero) = some (.agg (bs zeroId).toArray))) rfl (fun g301 => ⟨⟨rfl, ⟨rfl, ⟨rfl, trivial⟩⟩⟩, ?_⟩)) ?_
        ·
          refine (AH_ready [4] (by kernel_rfl) (by decide) ?_)
          refine AHs_cons rfl rfl rfl (by decide) (OpT_buildOnes (r := 302) (bs [255]) rfl rfl Try.runUnderlying30 Try.sizeOf5 Try.zeroValue5 rfl rfl (by decide) rfl (bs_cells _) (fun v18 => ⟨⟨rfl, ⟨rfl, ⟨rfl, trivial⟩⟩⟩, ?_⟩)) ?_
          ·
            refine (AH_ready [5] (by kernel_rfl) (by decide) ?_)
            refine AHs_cons rfl rfl rfl (by decide) (OpT_append (r := 300) (r2 := 302) rfl Try.underlying30 TI.hi5 TI.hz5 TI.hs5 TI.hby5 TI.hzs5 (by decide) rfl rfl rfl rfl (fun _ h => rowP_rd h) (bs_one _) (by unfold maxLen; simp [hdL_length hn, numB_length, *] <;> omega) (by simp [hdL_length hn, numB_length, *] <;> omega) (fun v19 => ?_)) ?_
            ·
              refine ⟨⟨rfl, ⟨rfl, ⟨rfl, trivial⟩⟩⟩, ?_⟩
              refine AH_turn (P' := rowB 5 v19 (hdL nm q ++ numB 65533 2 ++ [255])) 300 rfl (fun h hp => rowB_mk hp (by simp [hdL_length hn, numB_length, *] <;> omega) (by simp only [bs_append])) ?_
              refine (AH_ready [7] (by kernel_rfl) (by decide) ?_)
              refine AHs_cons rfl rfl rfl (by decide) (OpT_append (r := 300) (r2 := 102) rfl Try.underlying30 TI.hi5 TI.hz5 TI.hs5 TI.hby5 TI.hzs5 (by decide) rfl rfl rfl rfl (fun _ h => blk_all h hs) (bs_one _) (by unfold maxLen; simp [hdL_length hn, numB_length, *] <;> omega) (by simp [hdL_length hn, numB_length, *] <;> omega) (fun v21 => ?_)) ?_
              ·
                refine ⟨⟨rfl, ⟨rfl, ⟨rfl, trivial⟩⟩⟩, ?_⟩
                refine AH_turn (P' := rowB 5 v21 (hdL nm q ++ numB 65533 2 ++ [255] ++ seed)) 300 rfl (fun h hp => rowB_mk hp (by simp [hdL_length hn, numB_length, *] <;> omega) (by simp only [bs_append])) ?_
                refine (AH_ready [8] (by kernel_rfl) (by decide) ?_)
                refine AHs_cons rfl rfl rfl (by decide) (OpT_call 400 [0, 101, 102, 300, 301, 302] [] rfl Try.call14 rfl rfl rfl (by decide) (by decide) (refSum_spec v21 (hdL nm q ++ numB 65533 2 ++ [255] ++ seed) (by simp [hdL_length hn, numB_length, *]) _ (rd_star 3 rfl rowB_rd)) (fun v22 Ps22 hR22 => ?_)) ?_
                ·
                  obtain ⟨rfl, rfl⟩ := hR22
                  refine ⟨⟨rfl, ⟨rfl, ⟨rfl, trivial⟩⟩⟩, ?_⟩
                  refine (AH_ready [10] (by kernel_rfl) (by decide) ?_)
                  refine AHs_cons0 rfl rfl rfl (OpT_storeAll (r := 301) rfl Try.sizeOf29 rfl rfl rfl rfl ((bs_length _).trans (sha_length _)) (bs_one _) ?_) ?_
                  ·
                    refine ⟨⟨rfl, ⟨rfl, ⟨rfl, trivial⟩⟩⟩, ?_⟩
                    refine (AH_done (by kernel_rfl) ?_)
                    refine X_ren 301 181 rfl ?_
                    exact X_cut g301 trivial ⟨rfl, rfl, rfl, rfl, rfl, trivial⟩ ⟨rfl, rfl, rfl, rfl, trivial⟩
                  exact AHs_nil
                exact AHs_nil
              exact AHs_nil
            exact AHs_nil
          exact AHs_nil
        exact AHs_nil
      refine AHs_cons rfl rfl rfl (by decide) (OpT_buildOnes (r := 201) (bs [255]) rfl rfl Try.runUnderlying30 Try.sizeOf5 Try.zeroValue5 rfl rfl (by decide) rfl (bs_cells _) (fun v18 => ⟨⟨rfl, ⟨rfl, ⟨rfl, trivial⟩⟩⟩, ?_⟩)) ?_
      ·
        refine (AH_ready [3, 9] (by kernel_rfl) (by decide) ?_)
        refine AHs_cons rfl rfl rfl (by decide) (OpT_call 300 [0, 101, 102, 201] [200] rfl Try.call55 rfl rfl rfl (by decide) (by decide) (two5_spec _ rfl _ (hdL nm q) 65533 (by rw [hdL_length hn]; omega) _) (fun v17 Ps17 hR17 => ?_)) ?_
        ·
          subst hR17
          refine ⟨⟨rfl, ⟨rfl, ⟨rfl, trivial⟩⟩⟩, ?_⟩
          refine (AH_ready [5, 9] (by kernel_rfl) (by decide) ?_)
          refine AHs_cons rfl rfl rfl (by decide) (OpT_append (r := 300) (r2 := 201) rfl Try.underlying30 TI.hi5 TI.hz5 TI.hs5 TI.hby5 TI.hzs5 (by decide) rfl rfl rfl rfl (fun _ h => rowP_rd h) (bs_one _) (by unfold maxLen; simp [hdL_length hn, numB_length, *] <;> omega) (by simp [hdL_length hn, numB_length, *] <;> omega) (fun v19 => ?_)) ?_
          ·
            refine ⟨⟨rfl, ⟨rfl, ⟨rfl, trivial⟩⟩⟩, ?_⟩
            refine AH_turn (P' := rowB 5 v19 (hdL nm q ++ numB 65533 2 ++ [255])) 300 rfl (fun h hp => rowB_mk hp (by simp [hdL_length hn, numB_length, *] <;> omega) (by simp only [bs_append])) ?_
            refine (AH_ready [7, 9] (by kernel_rfl) (by decide) ?_)
            refine AHs_cons rfl rfl rfl (by decide) (OpT_append (r := 300) (r2 := 102) rfl Try.underlying30 TI.hi5 TI.hz5 TI.hs5 TI.hby5 TI.hzs5 (by decide) rfl rfl rfl rfl (fun _ h => blk_all h hs) (bs_one _) (by unfold maxLen; simp [hdL_length hn, numB_length, *] <;> omega) (by simp [hdL_length hn, numB_length, *] <;> omega) (fun v21 => ?_)) ?_
            ·
              refine ⟨⟨rfl, ⟨rfl, ⟨rfl, trivial⟩⟩⟩, ?_⟩
              refine AH_turn (P' := rowB 5 v21 (hdL nm q ++ numB 65533 2 ++ [255] ++ seed)) 300 rfl (fun h hp => rowB_mk hp (by simp [hdL_length hn, numB_length, *] <;> omega) (by simp only [bs_append])) ?_
              refine (AH_ready [8, 9] (by kernel_rfl) (by decide) ?_)
              refine AHs_cons rfl rfl rfl (by decide) (OpT_call 400 [0, 101, 102, 201, 300] [] rfl Try.call14 rfl rfl rfl (by decide) (by decide) (refSum_spec v21 (hdL nm q ++ numB 65533 2 ++ [255] ++ seed) (by simp [hdL_length hn, numB_length, *]) _ (rd_star 4 rfl rowB_rd)) (fun v22 Ps22 hR22 => ?_)) ?_
              ·
                obtain ⟨rfl, rfl⟩ := hR22
                refine ⟨⟨rfl, ⟨rfl, ⟨rfl, trivial⟩⟩⟩, ?_⟩
                refine (AH_ready [9] (by kernel_rfl) (by decide) ?_)
                refine AHs_cons rfl rfl rfl (by decide) (OpT_alloc (r := 401) (cs := (bs zeroId)) rfl (zero_run (by kernel_rfl : (Try.prog.info? 29).bind (·.zero) = some (.agg (bs zeroId).toArray))) rfl (fun g401 => ⟨⟨rfl, ⟨rfl, ⟨rfl, trivial⟩⟩⟩, ?_⟩)) ?_
                ·
                  refine (AH_ready [10] (by kernel_rfl) (by decide) ?_)
                  refine AHs_cons0 rfl rfl rfl (OpT_storeAll (r := 401) rfl Try.sizeOf29 rfl rfl rfl rfl ((bs_length _).trans (sha_length _)) (bs_one _) ?_) ?_
                  ·
                    refine ⟨⟨rfl, ⟨rfl, ⟨rfl, trivial⟩⟩⟩, ?_⟩
                    refine (AH_done (by kernel_rfl) ?_)
                    refine X_ren 401 181 rfl ?_
                    exact X_cut g401 trivial ⟨rfl, rfl, rfl, rfl, rfl, trivial⟩ ⟨rfl, rfl, rfl, rfl, trivial⟩
                  exact AHs_nil
                exact AHs_nil
              refine AHs_cons rfl rfl rfl (by decide) (OpT_alloc (r := 301) (cs := (bs zeroId)) rfl (zero_run (by kernel_rfl : (Try.prog.info? 29).bind (·.zero) = some (.agg (bs zeroId).toArray))) rfl (fun g301 => ⟨⟨rfl, ⟨rfl, ⟨rfl, trivial⟩⟩⟩, ?_⟩)) ?_
              ·
                refine (AH_ready [8] (by kernel_rfl) (by decide) ?_)
                refine AHs_cons rfl rfl rfl (by decide) (OpT_call 400 [0, 101, 102, 201, 300, 301] [] rfl Try.call14 rfl rfl rfl (by decide) (by decide) (refSum_spec v21 (hdL nm q ++ numB 65533 2 ++ [255] ++ seed) (by simp [hdL_length hn, numB_length, *]) _ (rd_star 4 rfl rowB_rd)) (fun v22 Ps22 hR22 => ?_)) ?_
                ·
                  obtain ⟨rfl, rfl⟩ := hR22
                  refine ⟨⟨rfl, ⟨rfl, ⟨rfl, trivial⟩⟩⟩, ?_⟩
                  refine (AH_ready [10] (by kernel_rfl) (by decide) ?_)
                  refine AHs_cons0 rfl rfl rfl (OpT_storeAll (r := 301) rfl Try.sizeOf29 rfl rfl rfl rfl ((bs_length _).trans (sha_length _)) (bs_one _) ?_) ?_
                  ·
                    refine ⟨⟨rfl, ⟨rfl, ⟨rfl, trivial⟩⟩⟩, ?_⟩
                    refine (AH_done (by kernel_rfl) ?_)
                    refine X_ren 301 181 rfl ?_
                    exact X_cut g301 trivial ⟨rfl, rfl, rfl, rfl, rfl, trivial⟩ ⟨rfl, rfl, rfl, rfl, trivial⟩
                  exact AHs_nil
                exact AHs_nil
              exact AHs_nil
            refine AHs_cons rfl rfl rfl (by decide) (OpT_alloc (r := 301) (cs := (bs zeroId)) rfl (zero_run (by kernel_rfl : (Try.prog.info? 29).bind (·.zero) = some (.agg (bs zeroId).toArray))) rfl (fun g301 => ⟨⟨rfl, ⟨rfl, ⟨rfl, trivial⟩⟩⟩, ?_⟩)) ?_
            ·
              refine (AH_ready [7] (by kernel_rfl) (by decide) ?_)
              refine AHs_cons rfl rfl rfl (by decide) (OpT_append (r := 300) (r2 := 102) rfl Try.underlying30 TI.hi5 TI.hz5 TI.hs5 TI.hby5 TI.hzs5 (by decide) rfl rfl rfl rfl (fun _ h => blk_all h hs) (bs_one _) (by unfold maxLen; simp [hdL_length hn, numB_length, *] <;> omega) (by simp [hdL_length hn, numB_length, *] <;> omega) (fun v21 => ?_)) ?_
              ·
                refine ⟨⟨rfl, ⟨rfl, ⟨rfl, trivial⟩⟩⟩, ?_⟩
                refine AH_turn (P' := rowB 5 v21 (hdL nm q ++ numB 65533 2 ++ [255] ++ seed)) 300 rfl (fun h hp => rowB_mk hp (by simp [hdL_length hn, numB_length, *] <;> omega) (by simp only [bs_append])) ?_
                refine (AH_ready [8] (by kernel_rfl) (by decide) ?_)
                refine AHs_cons rfl rfl rfl (by decide) (OpT_call 400 [0, 101, 102, 201, 300, 301] [] rfl Try.call14 rfl rfl rfl (by decide) (by decide) (refSum_spec v21 (hdL nm q ++ numB 65533 2 ++ [255] ++ seed) (by simp [hdL_length hn, numB_length, *]) _ (rd_star 4 rfl rowB_rd)) (fun v22 Ps22 hR22 => ?_)) ?_
                ·
                  obtain ⟨rfl, rfl⟩ := hR22
                  refine ⟨⟨rfl, ⟨rfl, ⟨rfl, trivial⟩⟩⟩, ?_⟩
                  refine (AH_ready [10] (by kernel_rfl) (by decide) ?_)
                  refine AHs_cons0 rfl rfl rfl (OpT_storeAll (r := 301) rfl Try.sizeOf29 rfl rfl rfl rfl ((bs_length _).trans (sha_length _)) (bs_one _) ?_) ?_
                  ·
                    refine ⟨⟨rfl, ⟨rfl, ⟨rfl, trivial⟩⟩⟩, ?_⟩
                    refine (AH_done (by kernel_rfl) ?_)
                    refine X_ren 301 181 rfl ?_
                    exact X_cut g301 trivial ⟨rfl, rfl, rfl, rfl, rfl, trivial⟩ ⟨rfl, rfl, rfl, rfl, trivial⟩
                  exact AHs_nil
                exact AHs_nil
              exact AHs_nil
            exact AHs_nil
          refine AHs_cons rfl rfl rfl (by decide) (OpT_alloc (r := 301) (cs := (bs zeroId)) rfl (zero_run (by kernel_rfl : (Try.prog.info? 29).bind (·.zero) = some (.agg (bs zeroId).toArray))) rfl (fun g301 => ⟨⟨rfl, ⟨rfl, ⟨rfl, trivial⟩⟩⟩, ?_⟩)) ?_
          ·
            refine (AH_ready [5] (by kernel_rfl) (by decide) ?_)
            refine AHs_cons rfl rfl rfl (by decide) (OpT_append (r := 300) (r2 := 201) rfl Try.underlying30 TI.hi5 TI.hz5 TI.hs5 TI.hby5 TI.hzs5 (by decide) rfl rfl rfl rfl (fun _ h => rowP_rd h) (bs_one _) (by unfold maxLen; simp [hdL_length hn, numB_length, *] <;> omega) (by simp [hdL_length hn, numB_length, *] <;> omega) (fun v19 => ?_)) ?_
            ·
              refine ⟨⟨rfl, ⟨rfl, ⟨rfl, trivial⟩⟩⟩, ?_⟩
              refine AH_turn (P' := rowB 5 v19 (hdL nm q ++ numB 65533 2 ++ [255])) 300 rfl (fun h hp => rowB_mk hp (by simp [hdL_length hn, numB_length, *] <;> omega) (by simp only [bs_append])) ?_
              refine (AH_ready [7] (by kernel_rfl) (by decide) ?_)
              refine AHs_cons rfl rfl rfl (by decide) (OpT_append (r := 300) (r2 := 102) rfl Try.underlying30 TI.hi5 TI.hz5 TI.hs5 TI.hby5 TI.hzs5 (by decide) rfl rfl rfl rfl (fun _ h => blk_all h hs) (bs_one _) (by unfold maxLen; simp [hdL_length hn, numB_length, *] <;> omega) (by simp [hdL_length hn, numB_length, *] <;> omega) (fun v21 => ?_)) ?_
              ·
                refine ⟨⟨rfl, ⟨rfl, ⟨rfl, trivial⟩⟩⟩, ?_⟩
                refine AH_turn (P' := rowB 5 v21 (hdL nm q ++ numB 65533 2 ++ [255] ++ seed)) 300 rfl (fun h hp => rowB_mk hp (by simp [hdL_length hn, numB_length, *] <;> omega) (by simp only [bs_append])) ?_
                refine (AH_ready [8] (by kernel_rfl) (by decide) ?_)
                refine AHs_cons rfl rfl rfl (by decide) (OpT_call 400 [0, 101, 102, 201, 300, 301] [] rfl Try.call14 rfl rfl rfl (by decide) (by decide) (refSum_spec v21 (hdL nm q ++ numB 65533 2 ++ [255] ++ seed) (by simp [hdL_length hn, numB_length, *]) _ (rd_star 4 rfl rowB_rd)) (fun v22 Ps22 hR22 => ?_)) ?_
                ·
                  obtain ⟨rfl, rfl⟩ := hR22
                  refine ⟨⟨rfl, ⟨rfl, ⟨rfl, trivial⟩⟩⟩, ?_⟩
                  refine (AH_ready [10] (by kernel_rfl) (by decide) ?_)
                  refine AHs_cons0 rfl rfl rfl (OpT_storeAll (r := 301) rfl Try.sizeOf29 rfl rfl rfl rfl ((bs_length _).trans (sha_length _)) (bs_one _) ?_) ?_
                  ·
                    refine ⟨⟨rfl, ⟨rfl, ⟨rfl, trivial⟩⟩⟩, ?_⟩
                    refine (AH_done (by kernel_rfl) ?_)
                    refine X_ren 301 181 rfl ?_
                    exact X_cut g301 trivial ⟨rfl, rfl, rfl, rfl, rfl, trivial⟩ ⟨rfl, rfl, rfl, rfl, trivial⟩
                  exact AHs_nil
                exact AHs_nil
              exact AHs_nil
            exact AHs_nil
          exact AHs_nil
        refine AHs_cons rfl rfl rfl (by decide) (OpT_alloc (r := 202) (cs := (bs zeroId)) rfl (zero_run (by kernel_rfl : (Try.prog.info? 29).bind (·.zero) = some (.agg (bs zeroId).toArray))) rfl (fun g202 => ⟨⟨rfl, ⟨rfl, ⟨rfl, trivial⟩⟩⟩, ?_⟩)) ?_
        ·
          refine (AH_ready [3] (by kernel_rfl) (by decide) ?_)
          refine AHs_cons rfl rfl rfl (by decide) (OpT_call 300 [0, 101, 102, 201, 202] [200] rfl Try.call55 rfl rfl rfl (by decide) (by decide) (two5_spec _ rfl _ (hdL nm q) 65533 (by rw [hdL_length hn]; omega) _) (fun v17 Ps17 hR17 => ?_)) ?_
          ·
            subst hR17
            refine ⟨⟨rfl, ⟨rfl, ⟨rfl, trivial⟩⟩⟩, ?_⟩
            refine (AH_ready [5] (by kernel_rfl) (by decide) ?_)
            refine AHs_cons rfl rfl rfl (by decide) (OpT_append (r := 300) (r2 := 201) rfl Try.underlying30 TI.hi5 TI.hz5 TI.hs5 TI.hby5 TI.hzs5 (by decide) rfl rfl rfl rfl (fun _ h => rowP_rd h) (bs_one _) (by unfold maxLen; simp [hdL_length hn, numB_length, *] <;> omega) (by simp [hdL_length hn, numB_length, *] <;> omega) (fun v19 => ?_)) ?_
            ·
              refine ⟨⟨rfl, ⟨rfl, ⟨rfl, trivial⟩⟩⟩, ?_⟩
              refine AH_turn (P' := rowB 5 v19 (hdL nm q ++ numB 65533 2 ++ [255])) 300 rfl (fun h hp => rowB_mk hp (by simp [hdL_length hn, numB_length, *] <;> omega) (by simp only [bs_append])) ?_
              refine (AH_ready [7] (by kernel_rfl) (by decide) ?_)
              refine AHs_cons rfl rfl rfl (by decide) (OpT_append (r := 300) (r2 := 102) rfl Try.underlying30 TI.hi5 TI.hz5 TI.hs5 TI.hby5 TI.hzs5 (by decide) rfl rfl rfl rfl (fun _ h => blk_all h hs) (bs_one _) (by unfold maxLen; simp [hdL_length hn, numB_length, *] <;> omega) (by simp [hdL_length hn, numB_length, *] <;> omega) (fun v21 => ?_)) ?_
              ·
                refine ⟨⟨rfl, ⟨rfl, ⟨rfl, trivial⟩⟩⟩, ?_⟩
                refine AH_turn (P' := rowB 5 v21 (hdL nm q ++ numB 65533 2 ++ [255] ++ seed)) 300 rfl (fun h hp => rowB_mk hp (by simp [hdL_length hn, numB_length, *] <;> omega) (by simp only [bs_append])) ?_
                refine (AH_ready [8] (by kernel_rfl) (by decide) ?_)
                refine AHs_cons rfl rfl rfl (by decide) (OpT_call 400 [0, 101, 102, 201, 202, 300] [] rfl Try.call14 rfl rfl rfl (by decide) (by decide) (refSum_spec v21 (hdL nm q ++ numB 65533 2 ++ [255] ++ seed) (by simp [hdL_length hn, numB_length, *]) _ (rd_star 5 rfl rowB_rd)) (fun v22 Ps22 hR22 => ?_)) ?_
                ·
                  obtain ⟨rfl, rfl⟩ := hR22
                  refine ⟨⟨rfl, ⟨rfl, ⟨rfl, trivial⟩⟩⟩, ?_⟩
                  refine (AH_ready [10] (by kernel_rfl) (by decide) ?_)
                  refine AHs_cons0 rfl rfl rfl (OpT_storeAll (r := 202) rfl Try.sizeOf29 rfl rfl rfl rfl ((bs_length _).trans (sha_length _)) (bs_one _) ?_) ?_
                  ·
                    refine ⟨⟨rfl, ⟨rfl, ⟨rfl, trivial⟩⟩⟩, ?_⟩
                    refine (AH_done (by kernel_rfl) ?_)
                    refine X_ren 202 181 rfl ?_
                    exact X_cut g202 trivial ⟨rfl, rfl, rfl, rfl, rfl, trivial⟩ ⟨rfl, rfl, rfl, rfl, trivial⟩
                  exact AHs_nil
                exact AHs_nil
              exact AHs_nil
            exact AHs_nil
          exact AHs_nil
        exact AHs_nil
      refine AHs_cons rfl rfl rfl (by decide) (OpT_alloc (r := 201) (cs := (bs zeroId)) rfl (zero_run (by kernel_rfl : (Try.prog.info? 29).bind (·.zero) = some (.agg (bs zeroId).toArray))) rfl (fun g201 => ⟨⟨rfl, ⟨rfl, ⟨rfl, trivial⟩⟩⟩, ?_⟩)) ?_
      ·
        refine (AH_ready [3, 4] (by kernel_rfl) (by decide) ?_)
        refine AHs_cons rfl rfl rfl (by decide) (OpT_call 300 [0, 101, 102, 201] [200] rfl Try.call55 rfl rfl rfl (by decide) (by decide) (two5_spec _ rfl _ (hdL nm q) 65533 (by rw [hdL_length hn]; omega) _) (fun v17 Ps17 hR17 => ?_)) ?_
        ·
          subst hR17
          refine ⟨⟨rfl, ⟨rfl, ⟨rfl, trivial⟩⟩⟩, ?_⟩
          refine (AH_ready [4] (by kernel_rfl) (by decide) ?_)
          refine AHs_cons rfl rfl rfl (by decide) (OpT_buildOnes (r := 301) (bs [255]) rfl rfl Try.runUnderlying30 Try.sizeOf5 Try.zeroValue5 rfl rfl (by decide) rfl (bs_cells _) (fun v18 => ⟨⟨rfl, ⟨rfl, ⟨rfl, trivial⟩⟩⟩, ?_⟩)) ?_
          ·
            refine (AH_ready [5] (by kernel_rfl) (by decide) ?_)
            refine AHs_cons rfl rfl rfl (by decide) (OpT_append (r := 300) (r2 := 301) rfl Try.underlying30 TI.hi5 TI.hz5 TI.hs5 TI.hby5 TI.hzs5 (by decide) rfl rfl rfl rfl (fun _ h => rowP_rd h) (bs_one _) (by unfold maxLen; simp [hdL_length hn, numB_length, *] <;> omega) (by simp [hdL_length hn, numB_length, *] <;> omega) (fun v19 => ?_)) ?_
            ·
              refine ⟨⟨rfl, ⟨rfl, ⟨rfl, trivial⟩⟩⟩, ?_⟩
              refine AH_turn (P' := rowB 5 v19 (hdL nm q ++ numB 65533 2 ++ [255])) 300 rfl (fun h hp => rowB_mk hp (by simp [hdL_length hn, numB_length, *] <;> omega) (by simp only [bs_append])) ?_
              refine (AH_ready [7] (by kernel_rfl) (by decide) ?_)
              refine AHs_cons rfl rfl rfl (by decide) (OpT_append (r := 300) (r2 := 102) rfl Try.underlying30 TI.hi5 TI.hz5 TI.hs5 TI.hby5 TI.hzs5 (by decide) rfl rfl rfl rfl (fun _ h => blk_all h hs) (bs_one _) (by unfold maxLen; simp [hdL_length hn, numB_length, *] <;> omega) (by simp [hdL_length hn, numB_length, *] <;> omega) (fun v21 => ?_)) ?_
              ·
                refine ⟨⟨rfl, ⟨rfl, ⟨rfl, trivial⟩⟩⟩, ?_⟩
                refine AH_turn (P' := rowB 5 v21 (hdL nm q ++ numB 65533 2 ++ [255] ++ seed)) 300 rfl (fun h hp => rowB_mk hp (by simp [hdL_length hn, numB_length, *] <;> omega) (by simp only [bs_append])) ?_
                refine (AH_ready [8] (by kernel_rfl) (by decide) ?_)
                refine AHs_cons rfl rfl rfl (by decide) (OpT_call 400 [0, 101, 102, 201, 300, 301] [] rfl Try.call14 rfl rfl rfl (by decide) (by decide) (refSum_spec v21 (hdL nm q ++ numB 65533 2 ++ [255] ++ seed) (by simp [hdL_length hn, numB_length, *]) _ (rd_star 4 rfl rowB_rd)) (fun v22 Ps22 hR22 => ?_)) ?_
                ·
                  obtain ⟨rfl, rfl⟩ := hR22
                  refine ⟨⟨rfl, ⟨rfl, ⟨rfl, trivial⟩⟩⟩, ?_⟩
                  refine (AH_ready [10] (by kernel_rfl) (by decide) ?_)
                  refine AHs_cons0 rfl rfl rfl (OpT_storeAll (r := 201) rfl Try.sizeOf29 rfl rfl rfl rfl ((bs_length _).trans (sha_length _)) (bs_one _) ?_) ?_
                  ·
                    refine ⟨⟨rfl, ⟨rfl, ⟨rfl, trivial⟩⟩⟩, ?_⟩
                    refine (AH_done (by kernel_rfl) ?_)
                    refine X_ren 201 181 rfl ?_
                    exact X_cut g201 trivial ⟨rfl, rfl, rfl, rfl, rfl, trivial⟩ ⟨rfl, rfl, rfl, rfl, trivial⟩
                  exact AHs_nil
                exact AHs_nil
              exact AHs_nil
            exact AHs_nil
          exact AHs_nil
        refine AHs_cons rfl rfl rfl (by decide) (OpT_buildOnes (r := 202) (bs [255]) rfl rfl Try.runUnderlying30 Try.sizeOf5 Try.zeroValue5 rfl rfl (by decide) rfl (bs_cells _) (fun v18 => ⟨⟨rfl, ⟨rfl, ⟨rfl, trivial⟩⟩⟩, ?_⟩)) ?_
        ·
          refine (AH_ready [3] (by kernel_rfl) (by decide) ?_)
          refine AHs_cons rfl rfl rfl (by decide) (OpT_call 300 [0, 101, 102, 201, 202] [200] rfl Try.call55 rfl rfl rfl (by decide) (by decide) (two5_spec _ rfl _ (hdL nm q) 65533 (by rw [hdL_length hn]; omega) _) (fun v17 Ps17 hR17 => ?_)) ?_
          ·
            subst hR17
            refine ⟨⟨rfl, ⟨rfl, ⟨rfl, trivial⟩⟩⟩, ?_⟩
            refine (AH_ready [5] (by kernel_rfl) (by decide) ?_)
            refine AHs_cons rfl rfl rfl (by decide) (OpT_append (r := 300) (r2 := 202) rfl Try.underlying30 TI.hi5 TI.hz5 TI.hs5 TI.hby5 TI.hzs5 (by decide) rfl rfl rfl rfl (fun _ h => rowP_rd h) (bs_one _) (by unfold maxLen; simp [hdL_length hn, numB_length, *] <;> omega) (by simp [hdL_length hn, numB_length, *] <;> omega) (fun v19 => ?_)) ?_
            ·
              refine ⟨⟨rfl, ⟨rfl, ⟨rfl, trivial⟩⟩⟩, ?_⟩
              refine AH_turn (P' := rowB 5 v19 (hdL nm q ++ numB 65533 2 ++ [255])) 300 rfl (fun h hp => rowB_mk hp (by simp [hdL_length hn, numB_length, *] <;> omega) (by simp only [bs_append])) ?_
              refine (AH_ready [7] (by kernel_rfl) (by decide) ?_)
              refine AHs_cons rfl rfl rfl (by decide) (OpT_append (r := 300) (r2 := 102) rfl Try.underlying30 TI.hi5 TI.hz5 TI.hs5 TI.hby5 TI.hzs5 (by decide) rfl rfl rfl rfl (fun _ h => blk_all h hs) (bs_one _) (by unfold maxLen; simp [hdL_length hn, numB_length, *] <;> omega) (by simp [hdL_length hn, numB_length, *] <;> omega) (fun v21 => ?_)) ?_
              ·
                refine ⟨⟨rfl, ⟨rfl, ⟨rfl, trivial⟩⟩⟩, ?_⟩
                refine AH_turn (P' := rowB 5 v21 (hdL nm q ++ numB 65533 2 ++ [255] ++ seed)) 300 rfl (fun h hp => rowB_mk hp (by simp [hdL_length hn, numB_length, *] <;> omega) (by simp only [bs_append])) ?_
                refine (AH_ready [8] (by kernel_rfl) (by decide) ?_)
                refine AHs_cons rfl rfl rfl (by decide) (OpT_call 400 [0, 101, 102, 201, 202, 300] [] rfl Try.call14 rfl rfl rfl (by decide) (by decide) (refSum_spec v21 (hdL nm q ++ numB 65533 2 ++ [255] ++ seed) (by simp [hdL_length hn, numB_length, *]) _ (rd_star 5 rfl rowB_rd)) (fun v22 Ps22 hR22 => ?_)) ?_
                ·
                  obtain ⟨rfl, rfl⟩ := hR22
                  refine ⟨⟨rfl, ⟨rfl, ⟨rfl, trivial⟩⟩⟩, ?_⟩
                  refine (AH_ready [10] (by kernel_rfl) (by decide) ?_)
                  refine AHs_cons0 rfl rfl rfl (OpT_storeAll (r := 201) rfl Try.sizeOf29 rfl rfl rfl rfl ((bs_length _).trans (sha_length _)) (bs_one _) ?_) ?_
                  ·
                    refine ⟨⟨rfl, ⟨rfl, ⟨rfl, trivial⟩⟩⟩, ?_⟩
                    refine (AH_done (by kernel_rfl) ?_)
                    refine X_ren 201 181 rfl ?_
                    exact X_cut g201 trivial ⟨rfl, rfl, rfl, rfl, rfl, trivial⟩ ⟨rfl, rfl, rfl, rfl, trivial⟩
                  exact AHs_nil
                exact AHs_nil
              exact AHs_nil
            exact AHs_nil
          exact AHs_nil
        exact AHs_nil
      exact AHs_nil
    refine AHs_cons rfl rfl rfl (by decide) (OpT_buildOnes (r := 103) (bs [255]) rfl rfl Try.runUnderlying30 Try.sizeOf5 Try.zeroValue5 rfl rfl (by decide) rfl (bs_cells _) (fun v18 => ⟨⟨rfl, ⟨rfl, ⟨rfl, trivial⟩⟩⟩, ?_⟩)) ?_
    ·
      refine (AH_ready [2, 9] (by kernel_rfl) (by decide) ?_)
      refine AHs_cons rfl rfl rfl (by decide) (OpT_call 200 [0, 101, 102, 103] [] rfl Try.call56 rfl rfl rfl (by decide) (by decide) (head5_spec nm hn q _) (fun v16 Ps16 hR16 => ?_)) ?_
      ·
        subst hR16
        refine ⟨⟨rfl, ⟨rfl, ⟨rfl, trivial⟩⟩⟩, ?_⟩
        refine (AH_ready [3, 9] (by kernel_rfl) (by decide) ?_)
        refine AHs_cons rfl rfl rfl (by decide) (OpT_call 300 [0, 101, 102, 103] [200] rfl Try.call55 rfl rfl rfl (by decide) (by decide) (two5_spec _ rfl _ (hdL nm q) 65533 (by rw [hdL_length hn]; omega) _) (fun v17 Ps17 hR17 => ?_)) ?_
        ·
          subst hR17
          refine ⟨⟨rfl, ⟨rfl, ⟨rfl, trivial⟩⟩⟩, ?_⟩
          refine (AH_ready [5, 9] (by kernel_rfl) (by decide) ?_)
          refine AHs_cons rfl rfl rfl (by decide) (OpT_append (r := 300) (r2 := 103) rfl Try.underlying30 TI.hi5 TI.hz5 TI.hs5 TI.hby5 TI.hzs5 (by decide) rfl rfl rfl rfl (fun _ h => rowP_rd h) (bs_one _) (by unfold maxLen; simp [hdL_length hn, numB_length, *] <;> omega) (by simp [hdL_length hn, numB_length, *] <;> omega) (fun v19 => ?_)) ?_
          ·
            refine ⟨⟨rfl, ⟨rfl, ⟨rfl, trivial⟩⟩⟩, ?_⟩
            refine AH_turn (P' := rowB 5 v19 (hdL nm q ++ numB 65533 2 ++ [255])) 300 rfl (fun h hp => rowB_mk hp (by simp [hdL_length hn, numB_length, *] <;> omega) (by simp only [bs_append])) ?_
            refine (AH_ready [7, 9] (by kernel_rfl) (by decide) ?_)
            refine AHs_cons rfl rfl rfl (by decide) (OpT_append (r := 300) (r2 := 102) rfl Try.underlying30 TI.hi5 TI.hz5 TI.hs5 TI.hby5 TI.hzs5 (by decide) rfl rfl rfl rfl (fun _ h => blk_all h hs) (bs_one _) (by unfold maxLen; simp [hdL_length hn, numB_length, *] <;> omega) (by simp [hdL_length hn, numB_length, *] <;> omega) (fun v21 => ?_)) ?_
            ·
              refine ⟨⟨rfl, ⟨rfl, ⟨rfl, trivial⟩⟩⟩, ?_⟩
              refine AH_turn (P' := rowB 5 v21 (hdL nm q ++ numB 65533 2 ++ [255] ++ seed)) 300 rfl (fun h hp => rowB_mk hp (by simp [hdL_length hn, numB_length, *] <;> omega) (by simp only [bs_append])) ?_
              refine (AH_ready [8, 9] (by kernel_rfl) (by decide) ?_)
              refine AHs_cons rfl rfl rfl (by decide) (OpT_call 400 [0, 101, 102, 103, 300] [] rfl Try.call14 rfl rfl rfl (by decide) (by decide) (refSum_spec v21 (hdL nm q ++ numB 65533 2 ++ [255] ++ seed) (by simp [hdL_length hn, numB_length, *]) _ (rd_star 4 rfl rowB_rd)) (fun v22 Ps22 hR22 => ?_)) ?_
              ·
                obtain ⟨rfl, rfl⟩ := hR22
                refine ⟨⟨rfl, ⟨rfl, ⟨rfl, trivial⟩⟩⟩, ?_⟩
                refine (AH_ready [9] (by kernel_rfl) (by decide) ?_)
                refine AHs_cons rfl rfl rfl (by decide) (OpT_alloc (r := 401) (cs := (bs zeroId)) rfl (zero_run (by kernel_rfl : (Try.prog.info? 29).bind (·.zero) = some (.agg (bs zeroId).toArray))) rfl (fun g401 => ⟨⟨rfl, ⟨rfl, ⟨rfl, trivial⟩⟩⟩, ?_⟩)) ?_
                ·
                  refine (AH_ready [10] (by kernel_rfl) (by decide) ?_)
                  refine AHs_cons0 rfl rfl rfl (OpT_storeAll (r := 401) rfl Try.sizeOf29 rfl rfl rfl rfl ((bs_length _).trans (sha_length _)) (bs_one _) ?_) ?_
                  ·
                    refine ⟨⟨rfl, ⟨rfl, ⟨rfl, trivial⟩⟩⟩, ?_⟩
                    refine (AH_done (by kernel_rfl) ?_)
                    refine X_ren 401 181 rfl ?_
                    exact X_cut g401 trivial ⟨rfl, rfl, rfl, rfl, rfl, trivial⟩ ⟨rfl, rfl, rfl, rfl, trivial⟩
                  exact AHs_nil
                exact AHs_nil
              refine AHs_cons rfl rfl rfl (by decide) (OpT_alloc (r := 301) (cs := (bs zeroId)) rfl (zero_run (by kernel_rfl : (Try.prog.info? 29).bind (·.zero) = some (.agg (bs zeroId).toArray))) rfl (fun g301 => ⟨⟨rfl, ⟨rfl, ⟨rfl, trivial⟩⟩⟩, ?_⟩)) ?_
              ·
                refine (AH_ready [8] (by kernel_rfl) (by decide) ?_)
                refine AHs_cons rfl rfl rfl (by decide) (OpT_call 400 [0, 101, 102, 103, 300, 301] [] rfl Try.call14 rfl rfl rfl (by decide) (by decide) (refSum_spec v21 (hdL nm q ++ numB 65533 2 ++ [255] ++ seed) (by simp [hdL_length hn, numB_length, *]) _ (rd_star 4 rfl rowB_rd)) (fun v22 Ps22 hR22 => ?_)) ?_
                ·
                  obtain ⟨rfl, rfl⟩ := hR22
                  refine ⟨⟨rfl, ⟨rfl, ⟨rfl, trivial⟩⟩⟩, ?_⟩
                  refine (AH_ready [10] (by kernel_rfl) (by decide) ?_)
                  refine AHs_cons0 rfl rfl rfl (OpT_storeAll (r := 301) rfl Try.sizeOf29 rfl rfl rfl rfl ((bs_length _).trans (sha_length _)) (bs_one _) ?_) ?_
                  ·
                    refine ⟨⟨rfl, ⟨rfl, ⟨rfl, trivial⟩⟩⟩, ?_⟩
                    refine (AH_done (by kernel_rfl) ?_)
                    refine X_ren 301 181 rfl ?_
                    exact X_cut g301 trivial ⟨rfl, rfl, rfl, rfl, rfl, trivial⟩ ⟨rfl, rfl, rfl, rfl, trivial⟩
                  exact AHs_nil
                exact AHs_nil
              exact AHs_nil
            refine AHs_cons rfl rfl rfl (by decide) (OpT_alloc (r := 301) (cs := (bs zeroId)) rfl (zero_run (by kernel_rfl : (Try.prog.info? 29).bind (·.zero) = some (.agg (bs zeroId).toArray))) rfl (fun g301 => ⟨⟨rfl, ⟨rfl, ⟨rfl, trivial⟩⟩⟩, ?_⟩)) ?_
            ·
              refine (AH_ready [7] (by kernel_rfl) (by decide) ?_)
              refine AHs_cons rfl rfl rfl (by decide) (OpT_append (r := 300) (r2 := 102) rfl Try.underlying30 TI.hi5 TI.hz5 TI.hs5 TI.hby5 TI.hzs5 (by decide) rfl rfl rfl rfl (fun _ h => blk_all h hs) (bs_one _) (by unfold maxLen; simp [hdL_length hn, numB_length, *] <;> omega) (by simp [hdL_length hn, numB_length, *] <;> omega) (fun v21 => ?_)) ?_
              ·
                refine ⟨⟨rfl, ⟨rfl, ⟨rfl, trivial⟩⟩⟩, ?_⟩
                refine AH_turn (P' := rowB 5 v21 (hdL nm q ++ numB 65533 2 ++ [255] ++ seed)) 300 rfl (fun h hp => rowB_mk hp (by simp [hdL_length hn, numB_length, *] <;> omega) (by simp only [bs_append])) ?_
                refine (AH_ready [8] (by kernel_rfl) (by decide) ?_)
                refine AHs_cons rfl rfl rfl (by decide) (OpT_call 400 [0, 101, 102, 103, 300, 301] [] rfl Try.call14 rfl rfl rfl (by decide) (by decide) (refSum_spec v21 (hdL nm q ++ numB 65533 2 ++ [255] ++ seed) (by simp [hdL_length hn, numB_length, *]) _ (rd_star 4 rfl rowB_rd)) (fun v22 Ps22 hR22 => ?_)) ?_
                ·
                  obtain ⟨rfl, rfl⟩ := hR22
                  refine ⟨⟨rfl, ⟨rfl, ⟨rfl, trivial⟩⟩⟩, ?_⟩
                  refine (AH_ready [10] (by kernel_rfl) (by decide) ?_)
                  refine AHs_cons0 rfl rfl rfl (OpT_storeAll (r := 301) rfl Try.sizeOf29 rfl rfl rfl rfl ((bs_length _).trans (sha_length _)) (bs_one _) ?_) ?_
                  ·
                    refine ⟨⟨rfl, ⟨rfl, ⟨rfl, trivial⟩⟩⟩, ?_⟩
                    refine (AH_done (by kernel_rfl) ?_)
                    refine X_ren 301 181 rfl ?_
                    exact X_cut g301 trivial ⟨rfl, rfl, rfl, rfl, rfl, trivial⟩ ⟨rfl, rfl, rfl, rfl, trivial⟩
                  exact AHs_nil
                exact AHs_nil
              exact AHs_nil
            exact AHs_nil
          refine AHs_cons rfl rfl rfl (by decide) (OpT_alloc (r := 301) (cs := (bs zeroId)) rfl (zero_run (by kernel_rfl : (Try.prog.info? 29).bind (·.zero) = some (.agg (bs zeroId).toArray))) rfl (fun g301 => ⟨⟨rfl, ⟨rfl, ⟨rfl, trivial⟩⟩⟩, ?_⟩)) ?_
          ·
            refine (AH_ready [5] (by kernel_rfl) (by decide) ?_)
            refine AHs_cons rfl rfl rfl (by decide) (OpT_append (r := 300) (r2 := 103) rfl Try.underlying30 TI.hi5 TI.hz5 TI.hs5 TI.hby5 TI.hzs5 (by decide) rfl rfl rfl rfl (fun _ h => rowP_rd h) (bs_one _) (by unfold maxLen; simp [hdL_length hn, numB_length, *] <;> omega) (by simp [hdL_length hn, numB_length, *] <;> omega) (fun v19 => ?_)) ?_
            ·
              refine ⟨⟨rfl, ⟨rfl, ⟨rfl, trivial⟩⟩⟩, ?_⟩
              refine AH_turn (P' := rowB 5 v19 (hdL nm q ++ numB 65533 2 ++ [255])) 300 rfl (fun h hp => rowB_mk hp (by simp [hdL_length hn, numB_length, *] <;> omega) (by simp only [bs_append])) ?_
              refine (AH_ready [7] (by kernel_rfl) (by decide) ?_)
              refine AHs_cons rfl rfl rfl (by decide) (OpT_append (r := 300) (r2 := 102) rfl Try.underlying30 TI.hi5 TI.hz5 TI.hs5 TI.hby5 TI.hzs5 (by decide) rfl rfl rfl rfl (fun _ h => blk_all h hs) (bs_one _) (by unfold maxLen; simp [hdL_length hn, numB_length, *] <;> omega) (by simp [hdL_length hn, numB_length, *] <;> omega) (fun v21 => ?_)) ?_
              ·
                refine ⟨⟨rfl, ⟨rfl, ⟨rfl, trivial⟩⟩⟩, ?_⟩
                refine AH_turn (P' := rowB 5 v21 (hdL nm q ++ numB 65533 2 ++ [255] ++ seed)) 300 rfl (fun h hp => rowB_mk hp (by simp [hdL_length hn, numB_length, *] <;> omega) (by simp only [bs_append])) ?_
                refine (AH_ready [8] (by kernel_rfl) (by decide) ?_)
                refine AHs_cons rfl rfl rfl (by decide) (OpT_call 400 [0, 101, 102, 103, 300, 301] [] rfl Try.call14 rfl rfl rfl (by decide) (by decide) (refSum_spec v21 (hdL nm q ++ numB 65533 2 ++ [255] ++ seed) (by simp [hdL_length hn, numB_length, *]) _ (rd_star 4 rfl rowB_rd)) (fun v22 Ps22 hR22 => ?_)) ?_
                ·
                  obtain ⟨rfl, rfl⟩ := hR22
                  refine ⟨⟨rfl, ⟨rfl, ⟨rfl, trivial⟩⟩⟩, ?_⟩
                  refine (AH_ready [10] (by kernel_rfl) (by decide) ?_)
                  refine AHs_cons0 rfl rfl rfl (OpT_storeAll (r := 301) rfl Try.sizeOf29 rfl rfl rfl rfl ((bs_length _).trans (sha_length _)) (bs_one _) ?_) ?_
                  ·
                    refine ⟨⟨rfl, ⟨rfl, ⟨rfl, trivial⟩⟩⟩, ?_⟩
                    refine (AH_done (by kernel_rfl) ?_)
                    refine X_ren 301 181 rfl ?_
                    exact X_cut g301 trivial ⟨rfl, rfl, rfl, rfl, rfl, trivial⟩ ⟨rfl, rfl, rfl, rfl, trivial⟩
                  exact AHs_nil
                exact AHs_nil
              exact AHs_nil
            exact AHs_nil
          exact AHs_nil
        refine AHs_cons rfl rfl rfl (by decide) (OpT_alloc (r := 201) (cs := (bs zeroId)) rfl (zero_run (by kernel_rfl : (Try.prog.info? 29).bind (·.zero) = some (.agg (bs zeroId).toArray))) rfl (fun g201 => ⟨⟨rfl, ⟨rfl, ⟨rfl, trivial⟩⟩⟩, ?_⟩)) ?_
        ·
          refine (AH_ready [3] (by kernel_rfl) (by decide) ?_)
          refine AHs_cons rfl rfl rfl (by decide) (OpT_call 300 [0, 101, 102, 103, 201] [200] rfl Try.call55 rfl rfl rfl (by decide) (by decide) (two5_spec _ rfl _ (hdL nm q) 65533 (by rw [hdL_length hn]; omega) _) (fun v17 Ps17 hR17 => ?_)) ?_
          ·
            subst hR17
            refine ⟨⟨rfl, ⟨rfl, ⟨rfl, trivial⟩⟩⟩, ?_⟩
            refine (AH_ready [5] (by kernel_rfl) (by decide) ?_)
            refine AHs_cons rfl rfl rfl (by decide) (OpT_append (r := 300) (r2 := 103) rfl Try.underlying30 TI.hi5 TI.hz5 TI.hs5 TI.hby5 TI.hzs5 (by decide) rfl rfl rfl rfl (fun _ h => rowP_rd h) (bs_one _) (by unfold maxLen; simp [hdL_length hn, numB_length, *] <;> omega) (by simp [hdL_length hn, numB_length, *] <;> omega) (fun v19 => ?_)) ?_
            ·
              refine ⟨⟨rfl, ⟨rfl, ⟨rfl, trivial⟩⟩⟩, ?_⟩
              refine AH_turn (P' := rowB 5 v19 (hdL nm q ++ numB 65533 2 ++ [255])) 300 rfl (fun h hp => rowB_mk hp (by simp [hdL_length hn, numB_length, *] <;> omega) (by simp only [bs_append])) ?_
              refine (AH_ready [7] (by kernel_rfl) (by decide) ?_)
              refine AHs_cons rfl rfl rfl (by decide) (OpT_append (r := 300) (r2 := 102) rfl Try.underlying30 TI.hi5 TI.hz5 TI.hs5 TI.hby5 TI.hzs5 (by decide) rfl rfl rfl rfl (fun _ h => blk_all h hs) (bs_one _) (by unfold maxLen; simp [hdL_length hn, numB_length, *] <;> omega) (by simp [hdL_length hn, numB_length, *] <;> omega) (fun v21 => ?_)) ?_
              ·
                refine ⟨⟨rfl, ⟨rfl, ⟨rfl, trivial⟩⟩⟩, ?_⟩
                refine AH_turn (P' := rowB 5 v21 (hdL nm q ++ numB 65533 2 ++ [255] ++ seed)) 300 rfl (fun h hp => rowB_mk hp (by simp [hdL_length hn, numB_length, *] <;> omega) (by simp only [bs_append])) ?_
                refine (AH_ready [8] (by kernel_rfl) (by decide) ?_)
                refine AHs_cons rfl rfl rfl (by decide) (OpT_call 400 [0, 101, 102, 103, 201, 300] [] rfl Try.call14 rfl rfl rfl (by decide) (by decide) (refSum_spec v21 (hdL nm q ++ numB 65533 2 ++ [255] ++ seed) (by simp [hdL_length hn, numB_length, *]) _ (rd_star 5 rfl rowB_rd)) (fun v22 Ps22 hR22 => ?_)) ?_
                ·
                  obtain ⟨rfl, rfl⟩ := hR22
                  refine ⟨⟨rfl, ⟨rfl, ⟨rfl, trivial⟩⟩⟩, ?_⟩
                  refine (AH_ready [10] (by kernel_rfl) (by decide) ?_)
                  refine AHs_cons0 rfl rfl rfl (OpT_storeAll (r := 201) rfl Try.sizeOf29 rfl rfl rfl rfl ((bs_length _).trans (sha_length _)) (bs_one _) ?_) ?_
                  ·
                    refine ⟨⟨rfl, ⟨rfl, ⟨rfl, trivial⟩⟩⟩, ?_⟩
                    refine (AH_done (by kernel_rfl) ?_)
                    refine X_ren 201 181 rfl ?_
                    exact X_cut g201 trivial ⟨rfl, rfl, rfl, rfl, rfl, trivial⟩ ⟨rfl, rfl, rfl, rfl, trivial⟩
                  exact AHs_nil
                exact AHs_nil
              exact AHs_nil
            exact AHs_nil
          exact AHs_nil
        exact AHs_nil
      refine AHs_cons rfl rfl rfl (by decide) (OpT_alloc (r := 104) (cs := (bs zeroId)) rfl (zero_run (by kernel_rfl : (Try.prog.info? 29).bind (·.zero) = some (.agg (bs zeroId).toArray))) rfl (fun g104 => ⟨⟨rfl, ⟨rfl, ⟨rfl, trivial⟩⟩⟩, ?_⟩)) ?_
      ·
        refine (AH_ready [2] (by kernel_rfl) (by decide) ?_)
        refine AHs_cons rfl rfl rfl (by decide) (OpT_call 200 [0, 101, 102, 103, 104] [] rfl Try.call56 rfl rfl rfl (by decide) (by decide) (head5_spec nm hn q _) (fun v16 Ps16 hR16 => ?_)) ?_
        ·
          subst hR16
          refine ⟨⟨rfl, ⟨rfl, ⟨rfl, trivial⟩⟩⟩, ?_⟩
          refine (AH_ready [3] (by kernel_rfl) (by decide) ?_)
          refine AHs_cons rfl rfl rfl (by decide) (OpT_call 300 [0, 101, 102, 103, 104] [200] rfl Try.call55 rfl rfl rfl (by decide) (by decide) (two5_spec _ rfl _ (hdL nm q) 65533 (by rw [hdL_length hn]; omega) _) (fun v17 Ps17 hR17 => ?_)) ?_
          ·
            subst hR17
            refine ⟨⟨rfl, ⟨rfl, ⟨rfl, trivial⟩⟩⟩, ?_⟩
            refine (AH_ready [5] (by kernel_rfl) (by decide) ?_)
            refine AHs_cons rfl rfl rfl (by decide) (OpT_append (r := 300) (r2 := 103) rfl Try.underlying30 TI.hi5 TI.hz5 TI.hs5 TI.hby5 TI.hzs5 (by decide) rfl rfl rfl rfl (fun _ h => rowP_rd h) (bs_one _) (by unfold maxLen; simp [hdL_length hn, numB_length, *] <;> omega) (by simp [hdL_length hn, numB_length, *] <;> omega) (fun v19 => ?_)) ?_
            ·
              refine ⟨⟨rfl, ⟨rfl, ⟨rfl, trivial⟩⟩⟩, ?_⟩
              refine AH_turn (P' := rowB 5 v19 (hdL nm q ++ numB 65533 2 ++ [255])) 300 rfl (fun h hp => rowB_mk hp (by simp [hdL_length hn, numB_length, *] <;> omega) (by simp only [bs_append])) ?_
              refine (AH_ready [7] (by kernel_rfl) (by decide) ?_)
              refine AHs_cons rfl rfl rfl (by decide) (OpT_append (r := 300) (r2 := 102) rfl Try.underlying30 TI.hi5 TI.hz5 TI.hs5 TI.hby5 TI.hzs5 (by decide) rfl rfl rfl rfl (fun _ h => blk_all h hs) (bs_one _) (by unfold maxLen; simp [hdL_length hn, numB_length, *] <;> omega) (by simp [hdL_length hn, numB_length, *] <;> omega) (fun v21 => ?_)) ?_
              ·
                refine ⟨⟨rfl, ⟨rfl, ⟨rfl, trivial⟩⟩⟩, ?_⟩
                refine AH_turn (P' := rowB 5 v21 (hdL nm q ++ numB 65533 2 ++ [255] ++ seed)) 300 rfl (fun h hp => rowB_mk hp (by simp [hdL_length hn, numB_length, *] <;> omega) (by simp only [bs_append])) ?_
                refine (AH_ready [8] (by kernel_rfl) (by decide) ?_)
                refine AHs_cons rfl rfl rfl (by decide) (OpT_call 400 [0, 101, 102, 103, 104, 300] [] rfl Try.call14 rfl rfl rfl (by decide) (by decide) (refSum_spec v21 (hdL nm q ++ numB 65533 2 ++ [255] ++ seed) (by simp [hdL_length hn, numB_length, *]) _ (rd_star 5 rfl rowB_rd)) (fun v22 Ps22 hR22 => ?_)) ?_
                ·
                  obtain ⟨rfl, rfl⟩ := hR22
                  refine ⟨⟨rfl, ⟨rfl, ⟨rfl, trivial⟩⟩⟩, ?_⟩
                  refine (AH_ready [10] (by kernel_rfl) (by decide) ?_)
                  refine AHs_cons0 rfl rfl rfl (OpT_storeAll (r := 104) rfl Try.sizeOf29 rfl rfl rfl rfl ((bs_length _).trans (sha_length _)) (bs_one _) ?_) ?_
                  ·
                    refine ⟨⟨rfl, ⟨rfl, ⟨rfl, trivial⟩⟩⟩, ?_⟩
                    refine (AH_done (by kernel_rfl) ?_)
                    refine X_ren 104 181 rfl ?_
                    exact X_cut g104 trivial ⟨rfl, rfl, rfl, rfl, rfl, trivial⟩ ⟨rfl, rfl, rfl, rfl, trivial⟩
                  exact AHs_nil
                exact AHs_nil
              exact AHs_nil
            exact AHs_nil
          exact AHs_nil
        exact AHs_nil
      exact AHs_nil
    refine AHs_cons rfl rfl rfl (by decide) (OpT_alloc (r := 103) (cs := (bs zeroId)) rfl (zero_run (by kernel_rfl : (Try.prog.info? 29).bind (·.zero) = some (.agg (bs zeroId).toArray))) rfl (fun g103 => ⟨⟨rfl, ⟨rfl, ⟨rfl, trivial⟩⟩⟩, ?_⟩)) ?_
    ·
      refine (AH_ready [2, 4] (by kernel_rfl) (by decide) ?_)
      refine AHs_cons rfl rfl rfl (by decide) (OpT_call 200 [0, 101, 102, 103] [] rfl Try.call56 rfl rfl rfl (by decide) (by decide) (head5_spec nm hn q _) (fun v16 Ps16 hR16 => ?_)) ?_
      ·
        subst hR16
        refine ⟨⟨rfl, ⟨rfl, ⟨rfl, trivial⟩⟩⟩, ?_⟩
        refine (AH_ready [3, 4] (by kernel_rfl) (by decide) ?_)
        refine AHs_cons rfl rfl rfl (by decide) (OpT_call 300 [0, 101, 102, 103] [200] rfl Try.call55 rfl rfl rfl (by decide) (by decide) (two5_spec _ rfl _ (hdL nm q) 65533 (by rw [hdL_length hn]; omega) _) (fun v17 Ps17 hR17 => ?_)) ?_
        ·
          subst hR17
          refine ⟨⟨rfl, ⟨rfl, ⟨rfl, trivial⟩⟩⟩, ?_⟩
          refine (AH_ready [4] (by kernel_rfl) (by decide) ?_)
          refine AHs_cons rfl rfl rfl (by decide) (OpT_buildOnes (r := 301) (bs [255]) rfl rfl Try.runUnderlying30 Try.sizeOf5 Try.zeroValue5 rfl rfl (by decide) rfl (bs_cells _) (fun v18 => ⟨⟨rfl, ⟨rfl, ⟨rfl, trivial⟩⟩⟩, ?_⟩)) ?_
          ·
            refine (AH_ready [5] (by kernel_rfl) (by decide) ?_)
            refine AHs_cons rfl rfl rfl (by decide) (OpT_append (r := 300) (r2 := 301) rfl Try.underlying30 TI.hi5 TI.hz5 TI.hs5 TI.hby5 TI.hzs5 (by decide) rfl rfl rfl rfl (fun _ h => rowP_rd h) (bs_one _) (by unfold maxLen; simp [hdL_length hn, numB_length, *] <;> omega) (by simp [hdL_length hn, numB_length, *] <;> omega) (fun v19 => ?_)) ?_
            ·
              refine ⟨⟨rfl, ⟨rfl, ⟨rfl, trivial⟩⟩⟩, ?_⟩
              refine AH_turn (P' := rowB 5 v19 (hdL nm q ++ numB 65533 2 ++ [255])) 300 rfl (fun h hp => rowB_mk hp (by simp [hdL_length hn, numB_length, *] <;> omega) (by simp only [bs_append])) ?_
              refine (AH_ready [7] (by kernel_rfl) (by decide) ?_)
              refine AHs_cons rfl rfl rfl (by decide) (OpT_append (r := 300) (r2 := 102) rfl Try.underlying30 TI.hi5 TI.hz5 TI.hs5 TI.hby5 TI.hzs5 (by decide) rfl rfl rfl rfl (fun _ h => blk_all h hs) (bs_one _) (by unfold maxLen; simp [hdL_length hn, numB_length, *] <;> omega) (by simp [hdL_length hn, numB_length, *] <;> omega) (fun v21 => ?_)) ?_
              ·
                refine ⟨⟨rfl, ⟨rfl, ⟨rfl, trivial⟩⟩⟩, ?_⟩
                refine AH_turn (P' := rowB 5 v21 (hdL nm q ++ numB 65533 2 ++ [255] ++ seed)) 300 rfl (fun h hp => rowB_mk hp (by simp [hdL_length hn, numB_length, *] <;> omega) (by simp only [bs_append])) ?_
                refine (AH_ready [8] (by kernel_rfl) (by decide) ?_)
                refine AHs_cons rfl rfl rfl (by decide) (OpT_call 400 [0, 101, 102, 103, 300, 301] [] rfl Try.call14 rfl rfl rfl (by decide) (by decide) (refSum_spec v21 (hdL nm q ++ numB 65533 2 ++ [255] ++ seed) (by simp [hdL_length hn, numB_length, *]) _ (rd_star 4 rfl rowB_rd)) (fun v22 Ps22 hR22 => ?_)) ?_
                ·
                  obtain ⟨rfl, rfl⟩ := hR22
                  refine ⟨⟨rfl, ⟨rfl, ⟨rfl, trivial⟩⟩⟩, ?_⟩
                  refine (AH_ready [10] (by kernel_rfl) (by decide) ?_)
                  refine AHs_cons0 rfl rfl rfl (OpT_storeAll (r := 103) rfl Try.sizeOf29 rfl rfl rfl rfl ((bs_length _).trans (sha_length _)) (bs_one _) ?_) ?_
                  ·
                    refine ⟨⟨rfl, ⟨rfl, ⟨rfl, trivial⟩⟩⟩, ?_⟩
                    refine (AH_done (by kernel_rfl) ?_)
                    refine X_ren 103 181 rfl ?_
                    exact X_cut g103 trivial ⟨rfl, rfl, rfl, rfl, rfl, trivial⟩ ⟨rfl, rfl, rfl, rfl, trivial⟩
                  exact AHs_nil
                exact AHs_nil
              exact AHs_nil
            exact AHs_nil
          exact AHs_nil
        refine AHs_cons rfl rfl rfl (by decide) (OpT_buildOnes (r := 201) (bs [255]) rfl rfl Try.runUnderlying30 Try.sizeOf5 Try.zeroValue5 rfl rfl (by decide) rfl (bs_cells _) (fun v18 => ⟨⟨rfl, ⟨rfl, ⟨rfl, trivial⟩⟩⟩, ?_⟩)) ?_
        ·
          refine (AH_ready [3] (by kernel_rfl) (by decide) ?_)
          refine AHs_cons rfl rfl rfl (by decide) (OpT_call 300 [0, 101, 102, 103, 201] [200] rfl Try.call55 rfl rfl rfl (by decide) (by decide) (two5_spec _ rfl _ (hdL nm q) 65533 (by rw [hdL_length hn]; omega) _) (fun v17 Ps17 hR17 => ?_)) ?_
          ·
            subst hR17
            refine ⟨⟨rfl, ⟨rfl, ⟨rfl, trivial⟩⟩⟩, ?_⟩
            refine (AH_ready [5] (by kernel_rfl) (by decide) ?_)
            refine AHs_cons rfl rfl rfl (by decide) (OpT_append (r := 300) (r2 := 201) rfl Try.underlying30 TI.hi5 TI.hz5 TI.hs5 TI.hby5 TI.hzs5 (by decide) rfl rfl rfl rfl (fun _ h => rowP_rd h) (bs_one _) (by unfold maxLen; simp [hdL_length hn, numB_length, *] <;> omega) (by simp [hdL_length hn, numB_length, *] <;> omega) (fun v19 => ?_)) ?_
            ·
              refine ⟨⟨rfl, ⟨rfl, ⟨rfl, trivial⟩⟩⟩, ?_⟩
              refine AH_turn (P' := rowB 5 v19 (hdL nm q ++ numB 65533 2 ++ [255])) 300 rfl (fun h hp => rowB_mk hp (by simp [hdL_length hn, numB_length, *] <;> omega) (by simp only [bs_append])) ?_
              refine (AH_ready [7] (by kernel_rfl) (by decide) ?_)
              refine AHs_cons rfl rfl rfl (by decide) (OpT_append (r := 300) (r2 := 102) rfl Try.underlying30 TI.hi5 TI.hz5 TI.hs5 TI.hby5 TI.hzs5 (by decide) rfl rfl rfl rfl (fun _ h => blk_all h hs) (bs_one _) (by unfold maxLen; simp [hdL_length hn, numB_length, *] <;> omega) (by simp [hdL_length hn, numB_length, *] <;> omega) (fun v21 => ?_)) ?_
              ·
                refine ⟨⟨rfl, ⟨rfl, ⟨rfl, trivial⟩⟩⟩, ?_⟩
                refine AH_turn (P' := rowB 5 v21 (hdL nm q ++ numB 65533 2 ++ [255] ++ seed)) 300 rfl (fun h hp => rowB_mk hp (by simp [hdL_length hn, numB_length, *] <;> omega) (by simp only [bs_append])) ?_
                refine (AH_ready [8] (by kernel_rfl) (by decide) ?_)
                refine AHs_cons rfl rfl rfl (by decide) (OpT_call 400 [0, 101, 102, 103, 201, 300] [] rfl Try.call14 rfl rfl rfl (by decide) (by decide) (refSum_spec v21 (hdL nm q ++ numB 65533 2 ++ [255] ++ seed) (by simp [hdL_length hn, numB_length, *]) _ (rd_star 5 rfl rowB_rd)) (fun v22 Ps22 hR22 => ?_)) ?_
                ·
                  obtain ⟨rfl, rfl⟩ := hR22
                  refine ⟨⟨rfl, ⟨rfl, ⟨rfl, trivial⟩⟩⟩, ?_⟩
                  refine (AH_ready [10] (by kernel_rfl) (by decide) ?_)
                  refine AHs_cons0 rfl rfl rfl (OpT_storeAll (r := 103) rfl Try.sizeOf29 rfl rfl rfl rfl ((bs_length _).trans (sha_length _)) (bs_one _) ?_) ?_
                  ·
                    refine ⟨⟨rfl, ⟨rfl, ⟨rfl, trivial⟩⟩⟩, ?_⟩
                    refine (AH_done (by kernel_rfl) ?_)
                    refine X_ren 103 181 rfl ?_
                    exact X_cut g103 trivial ⟨rfl, rfl, rfl, rfl, rfl, trivial⟩ ⟨rfl, rfl, rfl, rfl, trivial⟩
                  exact AHs_nil
                exact AHs_nil
              exact AHs_nil
            exact AHs_nil
          exact AHs_nil
        exact AHs_nil
      refine AHs_cons rfl rfl rfl (by decide) (OpT_buildOnes (r := 104) (bs [255]) rfl rfl Try.runUnderlying30 Try.sizeOf5 Try.zeroValue5 rfl rfl (by decide) rfl (bs_cells _) (fun v18 => ⟨⟨rfl, ⟨rfl, ⟨rfl, trivial⟩⟩⟩, ?_⟩)) ?_
      ·
        refine (AH_ready [2] (by kernel_rfl) (by decide) ?_)
        refine AHs_cons rfl rfl rfl (by decide) (OpT_call 200 [0, 101, 102, 103, 104] [] rfl Try.call56 rfl rfl rfl (by decide) (by decide) (head5_spec nm hn q _) (fun v16 Ps16 hR16 => ?_)) ?_
        ·
          subst hR16
          refine ⟨⟨rfl, ⟨rfl, ⟨rfl, trivial⟩⟩⟩, ?_⟩
          refine (AH_ready [3] (by kernel_rfl) (by decide) ?_)
          refine AHs_cons rfl rfl rfl (by decide) (OpT_call 300 [0, 101, 102, 103, 104] [200] rfl Try.call55 rfl rfl rfl (by decide) (by decide) (two5_spec _ rfl _ (hdL nm q) 65533 (by rw [hdL_length hn]; omega) _) (fun v17 Ps17 hR17 => ?_)) ?_
          ·
            subst hR17
            refine ⟨⟨rfl, ⟨rfl, ⟨rfl, trivial⟩⟩⟩, ?_⟩
            refine (AH_ready [5] (by kernel_rfl) (by decide) ?_)
            refine AHs_cons rfl rfl rfl (by decide) (OpT_append (r := 300) (r2 := 104) rfl Try.underlying30 TI.hi5 TI.hz5 TI.hs5 TI.hby5 TI.hzs5 (by decide) rfl rfl rfl rfl (fun _ h => rowP_rd h) (bs_one _) (by unfold maxLen; simp [hdL_length hn, numB_length, *] <;> omega) (by simp [hdL_length hn, numB_length, *] <;> omega) (fun v19 => ?_)) ?_
            ·
              refine ⟨⟨rfl, ⟨rfl, ⟨rfl, trivial⟩⟩⟩, ?_⟩
              refine AH_turn (P' := rowB 5 v19 (hdL nm q ++ numB 65533 2 ++ [255])) 300 rfl (fun h hp => rowB_mk hp (by simp [hdL_length hn, numB_length, *] <;> omega) (by simp only [bs_append])) ?_
              refine (AH_ready [7] (by kernel_rfl) (by decide) ?_)
              refine AHs_cons rfl rfl rfl (by decide) (OpT_append (r := 300) (r2 := 102) rfl Try.underlying30 TI.hi5 TI.hz5 TI.hs5 TI.hby5 TI.hzs5 (by decide) rfl rfl rfl rfl (fun _ h => blk_all h hs) (bs_one _) (by unfold maxLen; simp [hdL_length hn, numB_length, *] <;> omega) (by simp [hdL_length hn, numB_length, *] <;> omega) (fun v21 => ?_)) ?_
              ·
                refine ⟨⟨rfl, ⟨rfl, ⟨rfl, trivial⟩⟩⟩, ?_⟩
                refine AH_turn (P' := rowB 5 v21 (hdL nm q ++ numB 65533 2 ++ [255] ++ seed)) 300 rfl (fun h hp => rowB_mk hp (by simp [hdL_length hn, numB_length, *] <;> omega) (by simp only [bs_append])) ?_
                refine (AH_ready [8] (by kernel_rfl) (by decide) ?_)
                refine AHs_cons rfl rfl rfl (by decide) (OpT_call 400 [0, 101, 102, 103, 104, 300] [] rfl Try.call14 rfl rfl rfl (by decide) (by decide) (refSum_spec v21 (hdL nm q ++ numB 65533 2 ++ [255] ++ seed) (by simp [hdL_length hn, numB_length, *]) _ (rd_star 5 rfl rowB_rd)) (fun v22 Ps22 hR22 => ?_)) ?_
                ·
                  obtain ⟨rfl, rfl⟩ := hR22
                  refine ⟨⟨rfl, ⟨rfl, ⟨rfl, trivial⟩⟩⟩, ?_⟩
                  refine (AH_ready [10] (by kernel_rfl) (by decide) ?_)
                  refine AHs_cons0 rfl rfl rfl (OpT_storeAll (r := 103) rfl Try.sizeOf29 rfl rfl rfl rfl ((bs_length _).trans (sha_length _)) (bs_one _) ?_) ?_
                  ·
                    refine ⟨⟨rfl, ⟨rfl, ⟨rfl, trivial⟩⟩⟩, ?_⟩
                    refine (AH_done (by kernel_rfl) ?_)
                    refine X_ren 103 181 rfl ?_
                    exact X_cut g103 trivial ⟨rfl, rfl, rfl, rfl, rfl, trivial⟩ ⟨rfl, rfl, rfl, rfl, trivial⟩
                  exact AHs_nil
                exact AHs_nil
              exact AHs_nil
            exact AHs_nil
          exact AHs_nil
        exact AHs_nil
      exact AHs_nil
    exact AHs_nil
  ·
    refine W_cut (α := Nat) (fun z10 => [(1, .int .i64 q), (3, mv), (4, .pointer (some ⟨g101, 0, none⟩)), (6, .pointer (some ⟨g102, 0, none⟩)), (9, .pointer (some ⟨z9, 0, none⟩)), (10, .pointer (some ⟨z10, 0, none⟩))]) (fun z10 => [(0, F), (101, blk g101 52 (bs nm)), (102, blk g102 29 (bs seed)), (181, blk z9 29 (bs (rndO nm q seed))), (182, blk z10 99 (nsC (digL (digB2 nm q (rndO nm q seed) msg))))]) (fun z10 => True) ?_ (fun z10 _ => ?_)
    ·
      refine W.pre (K' := [(1, _), (3, _), (4, _), (6, _), (9, _)]) (L' := [(0, _), (101, _), (102, _), (181, _)]) ?_ ⟨rfl, ⟨rfl, ⟨rfl, ⟨rfl, ⟨rfl, trivial⟩⟩⟩⟩⟩ ⟨rfl, ⟨rfl, ⟨rfl, ⟨rfl, trivial⟩⟩⟩⟩
      refine W_draw (N := 7) (by kernel_rfl) rfl [(0, _), (101, _), (102, _), (181, _)] ⟨rfl, ⟨rfl, ⟨rfl, ⟨rfl, trivial⟩⟩⟩⟩ ?_
      refine (AH_take 0 rfl (by kernel_rfl) (by kernel_rfl) (by kernel_rfl) rfl rfl (by decide) (Pu_loadBN (r := 101) rfl Try.isAgg52 Try.sizeOf52 rfl rfl ((bs_length _).trans hn) (load_all ((bs_length _).trans hn))) (AH_take 1 rfl (by kernel_rfl) (by kernel_rfl) (by kernel_rfl) rfl rfl (by decide) (Pu_move rfl rfl) (AH_take 2 rfl (by kernel_rfl) (by kernel_rfl) (by kernel_rfl) rfl rfl (by decide) (Pu_sliceArr rfl Try.runUnderlying29 Try.sizeOf5 rfl) (AH_take 3 rfl (by kernel_rfl) (by kernel_rfl) (by kernel_rfl) rfl rfl (by decide) (Pu_move rfl rfl) (AH_ready [4, 5] (by kernel_rfl) (by decide) ?_)))))
      refine AHs_cons rfl rfl rfl (by decide) (OpT_call 200 [0, 101, 102, 181] [] rfl Try.call57 rfl rfl rfl (by decide) (by decide) (digits5_spec nm hn q _ _ (rndO nm q seed) msg (by rw [show (rndO nm q seed).length = 32 from (hashC_length nm q 65533 255 seed)]; omega) (by omega) _ (fun h hp => rdP_cast (rd_star 3 rfl (fun _ h => blk_all h (hashC_length nm q 65533 255 seed)) h hp) rfl (show 32 = (rndO nm q seed).length from (hashC_length nm q 65533 255 seed).symm)) (rd_star 0 rfl hm)) (fun v27 Ps27 hR27 => ?_)) ?_
      ·
        obtain ⟨rfl, rfl⟩ := hR27
        refine ⟨⟨rfl, ⟨rfl, ⟨rfl, ⟨rfl, trivial⟩⟩⟩⟩, ?_⟩
        refine (AH_ready [5] (by kernel_rfl) (by decide) ?_)
        refine AHs_cons rfl rfl rfl (by decide) (OpT_alloc (r := 201) (cs := (nsC (List.replicate 133 0))) rfl (zero_run (by kernel_rfl : (Try.prog.info? 99).bind (·.zero) = some (nsV (List.replicate 133 0)))) rfl (fun g201 => ⟨⟨rfl, ⟨rfl, ⟨rfl, ⟨rfl, trivial⟩⟩⟩⟩, ?_⟩)) ?_
        ·
          refine (AH_ready [6] (by kernel_rfl) (by decide) ?_)
          refine AHs_cons0 rfl rfl rfl (OpT_storeAll (r := 201) rfl Try.sizeOf99 rfl rfl rfl rfl ((nsC_length _).trans (digL_length _)) (nsC_one _) ?_) ?_
          ·
            refine ⟨⟨rfl, ⟨rfl, ⟨rfl, ⟨rfl, trivial⟩⟩⟩⟩, ?_⟩
            refine (AH_done (by kernel_rfl) ?_)
            refine X_ren 201 182 rfl ?_
            exact X_cut g201 trivial ⟨rfl, rfl, rfl, rfl, rfl, rfl, trivial⟩ ⟨rfl, rfl, rfl, rfl, rfl, trivial⟩
          exact AHs_nil
        exact AHs_nil
      refine AHs_cons rfl rfl rfl (by decide) (OpT_alloc (r := 103) (cs := (nsC (List.replicate 133 0))) rfl (zero_run (by kernel_rfl : (Try.prog.info? 99).bind (·.zero) = some (nsV (List.replicate 133 0)))) rfl (fun g103 => ⟨⟨rfl, ⟨rfl, ⟨rfl, ⟨rfl, trivial⟩⟩⟩⟩, ?_⟩)) ?_
      ·
        refine (AH_ready [4] (by kernel_rfl) (by decide) ?_)
        refine AHs_cons rfl rfl rfl (by decide) (OpT_call 200 [0, 101, 102, 103, 181] [] rfl Try.call57 rfl rfl rfl (by decide) (by decide) (digits5_spec nm hn q _ _ (rndO nm q seed) msg (by rw [show (rndO nm q seed).length = 32 from (hashC_length nm q 65533 255 seed)]; omega) (by omega) _ (fun h hp => rdP_cast (rd_star 4 rfl (fun _ h => blk_all h (hashC_length nm q 65533 255 seed)) h hp) rfl (show 32 = (rndO nm q seed).length from (hashC_length nm q 65533 255 seed).symm)) (rd_star 0 rfl hm)) (fun v27 Ps27 hR27 => ?_)) ?_
        ·
          obtain ⟨rfl, rfl⟩ := hR27
          refine ⟨⟨rfl, ⟨rfl, ⟨rfl, ⟨rfl, trivial⟩⟩⟩⟩, ?_⟩
          refine (AH_ready [6] (by kernel_rfl) (by decide) ?_)
          refine AHs_cons0 rfl rfl rfl (OpT_storeAll (r := 103) rfl Try.sizeOf99 rfl rfl rfl rfl ((nsC_length _).trans (digL_length _)) (nsC_one _) ?_) ?_
          ·
            refine ⟨⟨rfl, ⟨rfl, ⟨rfl, ⟨rfl, trivial⟩⟩⟩⟩, ?_⟩
            refine (AH_done (by kernel_rfl) ?_)
            refine X_ren 103 182 rfl ?_
            exact X_cut g103 trivial ⟨rfl, rfl, rfl, rfl, rfl, rfl, trivial⟩ ⟨rfl, rfl, rfl, rfl, rfl, trivial⟩
          exact AHs_nil
        exact AHs_nil
      exact AHs_nil
    ·
      refine W_cut (α := Value) (fun z11 => [(1, .int .i64 q), (3, mv), (4, .pointer (some ⟨g101, 0, none⟩)), (6, .pointer (some ⟨g102, 0, none⟩)), (9, .pointer (some ⟨z9, 0, none⟩)), (10, .pointer (some ⟨z10, 0, none⟩)), (11, z11)]) (fun z11 => [(0, F), (101, blk g101 52 (bs nm)), (102, blk g102 29 (bs seed)), (181, blk z9 29 (bs (rndO nm q seed))), (182, blk z10 99 (nsC (digL (digB2 nm q (rndO nm q seed) msg)))), (183, rowB 5 z11 ([0, 0, 0, 2] ++ (rndO nm q seed)))]) (fun z11 => True) ?_ (fun z11 _ => ?_)
      ·
        refine W.pre (K' := [(1, _), (3, _), (4, _), (6, _), (9, _), (10, _)]) (L' := [(0, _), (101, _), (102, _), (181, _), (182, _)]) ?_ ⟨rfl, ⟨rfl, ⟨rfl, ⟨rfl, ⟨rfl, ⟨rfl, trivial⟩⟩⟩⟩⟩⟩ ⟨rfl, ⟨rfl, ⟨rfl, ⟨rfl, ⟨rfl, trivial⟩⟩⟩⟩⟩
        refine W_nilRow 185 5 1 ?_
        refine W_draw (N := 4) (by kernel_rfl) rfl [(0, _), (101, _), (102, _), (181, _), (182, _)] ⟨rfl, ⟨rfl, ⟨rfl, ⟨rfl, ⟨rfl, trivial⟩⟩⟩⟩⟩ ?_
        refine (AH_take 1 rfl (by kernel_rfl) (by kernel_rfl) (by kernel_rfl) rfl rfl (by decide) (Pu_sliceArr rfl Try.runUnderlying29 Try.sizeOf5 rfl) (AH_ready [0] (by kernel_rfl) (by decide) ?_))
        refine AHs_cons rfl rfl rfl (by decide) (OpT_call 200 [0, 101, 102, 181, 182] [185] rfl Try.call58 rfl rfl rfl (by decide) (by decide) (four5_spec _ rfl _ [] 2 (by simp) _) (fun v28 Ps28 hR28 => ?_)) ?_
        ·
          subst hR28
          refine ⟨⟨rfl, ⟨rfl, ⟨rfl, ⟨rfl, ⟨rfl, trivial⟩⟩⟩⟩⟩, ?_⟩
          refine (AH_ready [2] (by kernel_rfl) (by decide) ?_)
          refine AHs_cons rfl rfl rfl (by decide) (OpT_append (r := 200) (r2 := 181) rfl Try.underlying30 TI.hi5 TI.hz5 TI.hs5 TI.hby5 TI.hzs5 (by decide) rfl rfl rfl rfl (fun _ h => blk_all h (hashC_length nm q 65533 255 seed)) (bs_one _) (by unfold maxLen; simp [numB_length] <;> omega) (by simp [numB_length] <;> omega) (fun v30 => ?_)) ?_
          ·
            refine ⟨⟨rfl, ⟨rfl, ⟨rfl, ⟨rfl, ⟨rfl, trivial⟩⟩⟩⟩⟩, ?_⟩
            refine AH_turn (P' := rowB 5 v30 ([0, 0, 0, 2] ++ (rndO nm q seed))) 200 rfl (fun h hp => rowB_mk hp (by simp [numB_length, rndO, hashC_length]) (by rw [bs_append]; rfl)) ?_
            refine (AH_take 3 rfl (by kernel_rfl) (by kernel_rfl) (by kernel_rfl) rfl rfl (by decide) (Pu_assign rfl rfl) (AH_done (by kernel_rfl) ?_))
            refine X_ren 200 183 rfl ?_
            exact X_cut v30 trivial ⟨rfl, rfl, rfl, rfl, rfl, rfl, rfl, trivial⟩ ⟨rfl, rfl, rfl, rfl, rfl, rfl, trivial⟩
          exact AHs_nil
        exact AHs_nil
      ·
        refine W_seq ?_
        refine W_seq ?_
        refine W.pre (K' := [(1, _), (3, _), (4, _), (6, _), (9, _), (10, _), (11, _)]) (L' := [(0, _), (101, _), (102, _), (181, _), (182, _), (183, _)]) ?_ ⟨rfl, ⟨rfl, ⟨rfl, ⟨rfl, ⟨rfl, ⟨rfl, ⟨rfl, trivial⟩⟩⟩⟩⟩⟩⟩ ⟨rfl, ⟨rfl, ⟨rfl, ⟨rfl, ⟨rfl, ⟨rfl, trivial⟩⟩⟩⟩⟩⟩
        refine W_regL (WL_pure rfl rfl (by decide) (Pu_assign rfl rfl) (WL_nil (X_then ?_)))
        refine W_block ?_
        refine W_loop (α := Value × Nat) (fun y => [(1, .int .i64 q), (4, .pointer (some ⟨g101, 0, none⟩)), (6, .pointer (some ⟨g102, 0, none⟩)), (10, .pointer (some ⟨z10, 0, none⟩)), (11, y.1), (12, .int .i64 (y.2 : Int))]) (fun y => [(0, F), (101, blk g101 52 (bs nm)), (102, blk g102 29 (bs seed)), (182, blk z10 99 (nsC (digL (digB2 nm q (rndO nm q seed) msg)))), (183, rowB 5 y.1 ([0, 0, 0, 2] ++ (rndO nm q seed) ++ rowsC (sgnY nm q seed (rndO nm q seed) msg) y.2))]) (fun y => y.2 ≤ 133) (fun y => 133 - y.2) ((z11, 0)) (by dsimp only; omega) ⟨rfl, ⟨rfl, ⟨rfl, ⟨rfl, ⟨rfl, ⟨rfl, trivial⟩⟩⟩⟩⟩⟩ ⟨rfl, rfl, rfl, rfl, look_eq rfl (by rw [rowsC, List.append_nil]), trivial⟩ (fun y hy => ?_)
        have hyl : (rowsC (sgnY nm q seed (rndO nm q seed) msg) y.2).length = 32 * y.2 := rowsC_length fun i _ => sgnY_length _ _ _ _ _ i
        have hcl : (rndO nm q seed).length = 32 := (hashC_length nm q 65533 255 seed)
        refine W_seq ?_
        refine W_seq ?_
        refine W.pre (K' := [(1, _), (4, _), (6, _), (10, _), (11, _), (12, _)]) (L' := [(0, _), (101, _), (102, _), (182, _), (183, _)]) ?_ ⟨rfl, ⟨rfl, ⟨rfl, ⟨rfl, ⟨rfl, ⟨rfl, trivial⟩⟩⟩⟩⟩⟩ ⟨rfl, ⟨rfl, ⟨rfl, ⟨rfl, ⟨rfl, trivial⟩⟩⟩⟩⟩
        refine W_regL (WL_pure rfl rfl (by decide) (Pu_move rfl rfl) (WL_pure rfl rfl (by decide) (Pu_bin rfl rfl rfl (run_lss _ _ _ _ _ _)) (WL_nil (X_then ?_))))
        refine W_cond rfl (fun hc32 => ?_) (fun hc32 => ?_)
        ·
          have hlt : y.2 < 133 := by have := of_decide_eq_true hc32; omega
          have hdx := digA_lt nm q (rndO nm q seed) msg y.2
          refine W_skip (X_then ?_)
          refine W_seq ?_
          refine W_block ?_
          refine W_seq ?_
          refine W.pre (K' := [(1, _), (4, _), (6, _), (10, _), (11, _), (12, _), (32, _)]) (L' := [(0, _), (101, _), (102, _), (182, _), (183, _)]) ?_ ⟨rfl, ⟨rfl, ⟨rfl, ⟨rfl, ⟨rfl, ⟨rfl, ⟨rfl, trivial⟩⟩⟩⟩⟩⟩⟩ ⟨rfl, ⟨rfl, ⟨rfl, ⟨rfl, ⟨rfl, trivial⟩⟩⟩⟩⟩
          refine W_draw (N := 14) (by kernel_rfl) rfl [(0, _), (101, _), (102, _), (182, _)] ⟨rfl, ⟨rfl, ⟨rfl, ⟨rfl, trivial⟩⟩⟩⟩ ?_
          refine (AH_take 0 rfl (by kernel_rfl) (by kernel_rfl) (by kernel_rfl) rfl rfl (by decide) (Pu_loadBN (r := 101) rfl Try.isAgg52 Try.sizeOf52 rfl rfl ((bs_length _).trans hn) (load_all ((bs_length _).trans hn))) (AH_take 1 rfl (by kernel_rfl) (by kernel_rfl) (by kernel_rfl) rfl rfl (by decide) (Pu_move rfl rfl) (AH_take 2 rfl (by kernel_rfl) (by kernel_rfl) (by kernel_rfl) rfl rfl (by decide) (Pu_move rfl rfl) (AH_take 3 rfl (by kernel_rfl) (by kernel_rfl) (by kernel_rfl) rfl rfl (by decide) (Pu_move rfl rfl) (AH_take 4 rfl (by kernel_rfl) (by kernel_rfl) (by kernel_rfl) rfl rfl (by decide) (Pu_idxA rfl Try.runUnderlying99 Try.sizeOf3 rfl rfl (by omega)) (AH_take 5 rfl (by kernel_rfl) (by kernel_rfl) (by kernel_rfl) rfl rfl (by decide) (Pu_loadB (r := 182) rfl Try.isAgg3 rfl rfl (digA_get nm q (rndO nm q seed) msg hlt)) (AH_take 6 rfl (by kernel_rfl) (by kernel_rfl) (by kernel_rfl) rfl rfl (by decide) (Pu_loadBN (r := 101) rfl Try.isAgg52 Try.sizeOf52 rfl rfl ((bs_length _).trans hn) (load_all ((bs_length _).trans hn))) (AH_take 7 rfl (by kernel_rfl) (by kernel_rfl) (by kernel_rfl) rfl rfl (by decide) (Pu_move rfl rfl) (AH_take 8 rfl (by kernel_rfl) (by kernel_rfl) (by kernel_rfl) rfl rfl (by decide) (Pu_move rfl rfl) (AH_take 9 rfl (by kernel_rfl) (by kernel_rfl) (by kernel_rfl) rfl rfl (by decide) (Pu_loadBN (r := 102) rfl Try.isAgg29 Try.sizeOf29 rfl rfl ((bs_length _).trans hs) (load_all ((bs_length _).trans hs))) (AH_ready [10, 12] (by kernel_rfl) (by decide) ?_)))))))))))
          refine AHs_cons rfl rfl rfl (by decide) (OpT_call 200 [0, 101, 102, 182, 183] [] rfl Try.call60 rfl rfl rfl (by decide) (by decide) (secret5_spec nm hn q (y.2 : Int) seed hs _) (fun v45 Ps45 hR45 => ?_)) ?_
          ·
            obtain ⟨rfl, rfl⟩ := hR45
            refine ⟨⟨rfl, ⟨rfl, ⟨rfl, ⟨rfl, trivial⟩⟩⟩⟩, ?_⟩
            refine (AH_ready [11, 12] (by kernel_rfl) (by decide) ?_)
            refine AHs_cons rfl rfl rfl (by decide) (OpT_call 300 [0, 101, 102, 182, 183] [] rfl Try.call59 rfl rfl rfl (by decide) (by decide) (walk5_spec nm hn q y.2 0 (digA nm q (rndO nm q seed) msg y.2) (by omega) (by omega) (hashC nm q (y.2 : Int) 255 seed) (hashC_length _ _ _ _ _) _) (fun v46 Ps46 hR46 => ?_)) ?_
            ·
              obtain ⟨rfl, rfl⟩ := hR46
              refine ⟨⟨rfl, ⟨rfl, ⟨rfl, ⟨rfl, trivial⟩⟩⟩⟩, ?_⟩
              refine (AH_ready [12] (by kernel_rfl) (by decide) ?_)
              refine AHs_cons rfl rfl rfl (by decide) (OpT_alloc (r := 301) (cs := (bs zeroId)) rfl (zero_run (by kernel_rfl : (Try.prog.info? 29).bind (·.zero) = some (.agg (bs zeroId).toArray))) rfl (fun g301 => ⟨⟨rfl, ⟨rfl, ⟨rfl, ⟨rfl, trivial⟩⟩⟩⟩, ?_⟩)) ?_
              ·
                refine (AH_ready [13] (by kernel_rfl) (by decide) ?_)
                refine AHs_cons0 rfl rfl rfl (OpT_storeAll (r := 301) rfl Try.sizeOf29 rfl rfl rfl rfl ((bs_length _).trans (sgnY_length nm q seed (rndO nm q seed) msg y.2)) (bs_one _) ?_) ?_
                ·
                  refine ⟨⟨rfl, ⟨rfl, ⟨rfl, ⟨rfl, trivial⟩⟩⟩⟩, ?_⟩
                  refine (AH_done (by kernel_rfl) (X_then ?_))
                  refine W.pre (K' := [(1, _), (4, _), (6, _), (10, _), (11, _), (12, _), (13, _), (32, _)]) (L' := [(0, _), (101, _), (102, _), (182, _), (183, _), (301, _)]) ?_ ⟨rfl, ⟨rfl, ⟨rfl, ⟨rfl, ⟨rfl, ⟨rfl, ⟨rfl, ⟨rfl, trivial⟩⟩⟩⟩⟩⟩⟩⟩ ⟨rfl, ⟨rfl, ⟨rfl, ⟨rfl, ⟨rfl, ⟨rfl, trivial⟩⟩⟩⟩⟩⟩
                  refine W_regL (WL_pure rfl rfl (by decide) (Pu_move rfl rfl) (WL_pure rfl rfl (by decide) (Pu_sliceArr rfl Try.runUnderlying29 Try.sizeOf5 rfl) (WL_cons rfl rfl (by decide) (OpT_append (r := 183) (r2 := 301) rfl Try.underlying30 TI.hi5 TI.hz5 TI.hs5 TI.hby5 TI.hzs5 (by decide) rfl rfl rfl rfl (fun _ h => blk_all h (sgnY_length nm q seed (rndO nm q seed) msg y.2)) (bs_one _) (by unfold maxLen; simp [hcl, hyl] <;> omega) (by simp [hcl, hyl] <;> omega) (fun v49 => ?_)))))
                  refine WL_turn (P' := rowB 5 v49 ([0, 0, 0, 2] ++ (rndO nm q seed) ++ rowsC (sgnY nm q seed (rndO nm q seed) msg) (y.2 + 1))) 183 rfl (fun h hp => rowB_mk hp (rows_len (sgnY_length nm q seed (rndO nm q seed) msg y.2)) (rows_step _ (sgnY nm q seed (rndO nm q seed) msg) y.2)) ?_
                  refine (WL_pure rfl rfl (by decide) (Pu_assign rfl rfl) (WL_nil (X_block (X_then ?_))))
                  refine W.pre (K' := [(1, _), (4, _), (6, _), (10, _), (11, _), (12, _), (13, _), (32, _)]) (L' := [(0, _), (101, _), (102, _), (182, _), (183, _), (301, _)]) ?_ ⟨rfl, ⟨rfl, ⟨rfl, ⟨rfl, ⟨rfl, ⟨rfl, ⟨rfl, ⟨rfl, trivial⟩⟩⟩⟩⟩⟩⟩⟩ ⟨rfl, ⟨rfl, ⟨rfl, ⟨rfl, ⟨rfl, ⟨rfl, trivial⟩⟩⟩⟩⟩⟩
                  refine W_regL (WL_pure rfl rfl (by decide) (Pu_move rfl rfl) (WL_pure rfl rfl (by decide) (Pu_bin rfl rfl rfl (run_add _ _ _ _ _ (by omega))) (WL_pure rfl rfl (by decide) (Pu_assign rfl rfl) (WL_nil ?_))))
                  exact X_round (v49, y.2 + 1) (by dsimp only; omega) (by show 133 - (y.2 + 1) < 133 - y.2; omega) ⟨rfl, rfl, rfl, rfl, rfl, rfl, trivial⟩ ⟨rfl, rfl, rfl, rfl, rfl, trivial⟩
                exact AHs_nil
              exact AHs_nil
            refine AHs_cons rfl rfl rfl (by decide) (OpT_alloc (r := 201) (cs := (bs zeroId)) rfl (zero_run (by kernel_rfl : (Try.prog.info? 29).bind (·.zero) = some (.agg (bs zeroId).toArray))) rfl (fun g201 => ⟨⟨rfl, ⟨rfl, ⟨rfl, ⟨rfl, trivial⟩⟩⟩⟩, ?_⟩)) ?_
            ·
              refine (AH_ready [11] (by kernel_rfl) (by decide) ?_)
              refine AHs_cons rfl rfl rfl (by decide) (OpT_call 300 [0, 101, 102, 182, 183, 201] [] rfl Try.call59 rfl rfl rfl (by decide) (by decide) (walk5_spec nm hn q y.2 0 (digA nm q (rndO nm q seed) msg y.2) (by omega) (by omega) (hashC nm q (y.2 : Int) 255 seed) (hashC_length _ _ _ _ _) _) (fun v46 Ps46 hR46 => ?_)) ?_
              ·
                obtain ⟨rfl, rfl⟩ := hR46
                refine ⟨⟨rfl, ⟨rfl, ⟨rfl, ⟨rfl, trivial⟩⟩⟩⟩, ?_⟩
                refine (AH_ready [13] (by kernel_rfl) (by decide) ?_)
                refine AHs_cons0 rfl rfl rfl (OpT_storeAll (r := 201) rfl Try.sizeOf29 rfl rfl rfl rfl ((bs_length _).trans (sgnY_length nm q seed (rndO nm q seed) msg y.2)) (bs_one _) ?_) ?_
                ·
                  refine ⟨⟨rfl, ⟨rfl, ⟨rfl, ⟨rfl, trivial⟩⟩⟩⟩, ?_⟩
                  refine (AH_done (by kernel_rfl) (X_then ?_))
                  refine W.pre (K' := [(1, _), (4, _), (6, _), (10, _), (11, _), (12, _), (13, _), (32, _)]) (L' := [(0, _), (101, _), (102, _), (182, _), (183, _), (201, _)]) ?_ ⟨rfl, ⟨rfl, ⟨rfl, ⟨rfl, ⟨rfl, ⟨rfl, ⟨rfl, ⟨rfl, trivial⟩⟩⟩⟩⟩⟩⟩⟩ ⟨rfl, ⟨rfl, ⟨rfl, ⟨rfl, ⟨rfl, ⟨rfl, trivial⟩⟩⟩⟩⟩⟩
                  refine W_regL (WL_pure rfl rfl (by decide) (Pu_move rfl rfl) (WL_pure rfl rfl (by decide) (Pu_sliceArr rfl Try.runUnderlying29 Try.sizeOf5 rfl) (WL_cons rfl rfl (by decide) (OpT_append (r := 183) (r2 := 201) rfl Try.underlying30 TI.hi5 TI.hz5 TI.hs5 TI.hby5 TI.hzs5 (by decide) rfl rfl rfl rfl (fun _ h => blk_all h (sgnY_length nm q seed (rndO nm q seed) msg y.2)) (bs_one _) (by unfold maxLen; simp [hcl, hyl] <;> omega) (by simp [hcl, hyl] <;> omega) (fun v49 => ?_)))))
                  refine WL_turn (P' := rowB 5 v49 ([0, 0, 0, 2] ++ (rndO nm q seed) ++ rowsC (sgnY nm q seed (rndO nm q seed) msg) (y.2 + 1))) 183 rfl (fun h hp => rowB_mk hp (rows_len (sgnY_length nm q seed (rndO nm q seed) msg y.2)) (rows_step _ (sgnY nm q seed (rndO nm q seed) msg) y.2)) ?_
                  refine (WL_pure rfl rfl (by decide) (Pu_assign rfl rfl) (WL_nil (X_block (X_then ?_))))
                  refine W.pre (K' := [(1, _), (4, _), (6, _), (10, _), (11, _), (12, _), (13, _), (32, _)]) (L' := [(0, _), (101, _), (102, _), (182, _), (183, _), (201, _)]) ?_ ⟨rfl, ⟨rfl, ⟨rfl, ⟨rfl, ⟨rfl, ⟨rfl, ⟨rfl, ⟨rfl, trivial⟩⟩⟩⟩⟩⟩⟩⟩ ⟨rfl, ⟨rfl, ⟨rfl, ⟨rfl, ⟨rfl, ⟨rfl, trivial⟩⟩⟩⟩⟩⟩
                  refine W_regL (WL_pure rfl rfl (by decide) (Pu_move rfl rfl) (WL_pure rfl rfl (by decide) (Pu_bin rfl rfl rfl (run_add _ _ _ _ _ (by omega))) (WL_pure rfl rfl (by decide) (Pu_assign rfl rfl) (WL_nil ?_))))
                  exact X_round (v49, y.2 + 1) (by dsimp only; omega) (by show 133 - (y.2 + 1) < 133 - y.2; omega) ⟨rfl, rfl, rfl, rfl, rfl, rfl, trivial⟩ ⟨rfl, rfl, rfl, rfl, rfl, trivial⟩
                exact AHs_nil
              exact AHs_nil
            exact AHs_nil
          refine AHs_cons rfl rfl rfl (by decide) (OpT_alloc (r := 103) (cs := (bs zeroId)) rfl (zero_run (by kernel_rfl : (Try.prog.info? 29).bind (·.zero) = some (.agg (bs zeroId).toArray))) rfl (fun g103 => ⟨⟨rfl, ⟨rfl, ⟨rfl, ⟨rfl, trivial⟩⟩⟩⟩, ?_⟩)) ?_
          ·
            refine (AH_ready [10] (by kernel_rfl) (by decide) ?_)
            refine AHs_cons rfl rfl rfl (by decide) (OpT_call 200 [0, 101, 102, 103, 182, 183] [] rfl Try.call60 rfl rfl rfl (by decide) (by decide) (secret5_spec nm hn q (y.2 : Int) seed hs _) (fun v45 Ps45 hR45 => ?_)) ?_
            ·
              obtain ⟨rfl, rfl⟩ := hR45
              refine ⟨⟨rfl, ⟨rfl, ⟨rfl, ⟨rfl, trivial⟩⟩⟩⟩, ?_⟩
              refine (AH_ready [11] (by kernel_rfl) (by decide) ?_)
              refine AHs_cons rfl rfl rfl (by decide) (OpT_call 300 [0, 101, 102, 103, 182, 183] [] rfl Try.call59 rfl rfl rfl (by decide) (by decide) (walk5_spec nm hn q y.2 0 (digA nm q (rndO nm q seed) msg y.2) (by omega) (by omega) (hashC nm q (y.2 : Int) 255 seed) (hashC_length _ _ _ _ _) _) (fun v46 Ps46 hR46 => ?_)) ?_
              ·
                obtain ⟨rfl, rfl⟩ := hR46
                refine ⟨⟨rfl, ⟨rfl, ⟨rfl, ⟨rfl, trivial⟩⟩⟩⟩, ?_⟩
                refine (AH_ready [13] (by kernel_rfl) (by decide) ?_)
                refine AHs_cons0 rfl rfl rfl (OpT_storeAll (r := 103) rfl Try.sizeOf29 rfl rfl rfl rfl ((bs_length _).trans (sgnY_length nm q seed (rndO nm q seed) msg y.2)) (bs_one _) ?_) ?_
                ·
                  refine ⟨⟨rfl, ⟨rfl, ⟨rfl, ⟨rfl, trivial⟩⟩⟩⟩, ?_⟩
                  refine (AH_done (by kernel_rfl) (X_then ?_))
                  refine W.pre (K' := [(1, _), (4, _), (6, _), (10, _), (11, _), (12, _), (13, _), (32, _)]) (L' := [(0, _), (101, _), (102, _), (103, _), (182, _), (183, _)]) ?_ ⟨rfl, ⟨rfl, ⟨rfl, ⟨rfl, ⟨rfl, ⟨rfl, ⟨rfl, ⟨rfl, trivial⟩⟩⟩⟩⟩⟩⟩⟩ ⟨rfl, ⟨rfl, ⟨rfl, ⟨rfl, ⟨rfl, ⟨rfl, trivial⟩⟩⟩⟩⟩⟩
                  refine W_regL (WL_pure rfl rfl (by decide) (Pu_move rfl rfl) (WL_pure rfl rfl (by decide) (Pu_sliceArr rfl Try.runUnderlying29 Try.sizeOf5 rfl) (WL_cons rfl rfl (by decide) (OpT_append (r := 183) (r2 := 103) rfl Try.underlying30 TI.hi5 TI.hz5 TI.hs5 TI.hby5 TI.hzs5 (by decide) rfl rfl rfl rfl (fun _ h => blk_all h (sgnY_length nm q seed (rndO nm q seed) msg y.2)) (bs_one _) (by unfold maxLen; simp [hcl, hyl] <;> omega) (by simp [hcl, hyl] <;> omega) (fun v49 => ?_)))))
                  refine WL_turn (P' := rowB 5 v49 ([0, 0, 0, 2] ++ (rndO nm q seed) ++ rowsC (sgnY nm q seed (rndO nm q seed) msg) (y.2 + 1))) 183 rfl (fun h hp => rowB_mk hp (rows_len (sgnY_length nm q seed (rndO nm q seed) msg y.2)) (rows_step _ (sgnY nm q seed (rndO nm q seed) msg) y.2)) ?_
                  refine (WL_pure rfl rfl (by decide) (Pu_assign rfl rfl) (WL_nil (X_block (X_then ?_))))
                  refine W.pre (K' := [(1, _), (4, _), (6, _), (10, _), (11, _), (12, _), (13, _), (32, _)]) (L' := [(0, _), (101, _), (102, _), (103, _), (182, _), (183, _)]) ?_ ⟨rfl, ⟨rfl, ⟨rfl, ⟨rfl, ⟨rfl, ⟨rfl, ⟨rfl, ⟨rfl, trivial⟩⟩⟩⟩⟩⟩⟩⟩ ⟨rfl, ⟨rfl, ⟨rfl, ⟨rfl, ⟨rfl, ⟨rfl, trivial⟩⟩⟩⟩⟩⟩
                  refine W_regL (WL_pure rfl rfl (by decide) (Pu_move rfl rfl) (WL_pure rfl rfl (by decide) (Pu_bin rfl rfl rfl (run_add _ _ _ _ _ (by omega))) (WL_pure rfl rfl (by decide) (Pu_assign rfl rfl) (WL_nil ?_))))
                  exact X_round (v49, y.2 + 1) (by dsimp only; omega) (by show 133 - (y.2 + 1) < 133 - y.2; omega) ⟨rfl, rfl, rfl, rfl, rfl, rfl, trivial⟩ ⟨rfl, rfl, rfl, rfl, rfl, trivial⟩
                exact AHs_nil
              exact AHs_nil
            exact AHs_nil
          exact AHs_nil
        ·
          have hye : y.2 = 133 := by have := of_decide_eq_false hc32; omega
          rw [hye] at hyl ⊢
          refine W_exit (X_then_exit (X_then_exit (X_block_exit (X_then ?_))))
          refine W_seq ?_
          refine W.pre (K' := [(1, _), (4, _), (6, _), (10, _), (11, _), (12, _), (32, _)]) (L' := [(0, _), (101, _), (102, _), (182, _), (183, _)]) ?_ ⟨rfl, ⟨rfl, ⟨rfl, ⟨rfl, ⟨rfl, ⟨rfl, ⟨rfl, trivial⟩⟩⟩⟩⟩⟩⟩ ⟨rfl, ⟨rfl, ⟨rfl, ⟨rfl, ⟨rfl, trivial⟩⟩⟩⟩⟩
          refine W_regL (WL_pure rfl rfl (by decide) (Pu_move rfl rfl) (WL_pure rfl rfl (by decide) (Pu_assign rfl rfl) (WL_nil (X_then ?_))))
          refine W_ret ?_
          exact X_ret [183] (Ps := [_]) (res1 Try.results38 rfl) rfl (by decide) rfl
end Go.Proofs.Ytinamipkpdlphaa
/- Signatures: what the trees' walks need, in plain words. -/
namespace Go.Proofs.Ytinamipkpdlphaa
open Go.RowKit
set_option linter.unusedVariables false
set_option linter.unusedSimpArgs false
section
variable {P : Program} {E : Env} {n : Nat} {K : Slots} {L : Res} {o : Oper}
theorem Pu_idZero (ho : o.op = .build 29 #[]) : Pure Try.prog E n o K L (.agg (bs zeroId).toArray) := fun a w hA hS => by
  have h := run_build (P := Try.prog) w 29 #[] (bs zeroId).toArray (by kernel_rfl)
  simp [execOp, ho, h]
end
theorem sz_id {y : List UInt8} (h : y.length = 32) : ∀ w, (sizeOf 29).run Try.prog w = .ok (Value.agg (bs y).toArray).cells.size w := fun w => by
  have e : (Value.agg (bs y).toArray).cells.size = 32 := by show (bs y).toArray.size = 32; simp [bs_length, h]
  rw [e]
  exact Try.sizeOf29 w
def okB (sig : List UInt8) : Bool := decide (sig.length = 4292) && (sig.take 4 == [0, 0, 0, 2])
def bckR (nm : List UInt8) (q : Int) (msg sig : List UInt8) : List UInt8 := if okB sig = true then bckO nm q msg sig else zeroId
def bckE (sig : List UInt8) : Int := if okB sig = true then 0 else 12
theorem bckR_length (nm : List UInt8) (q : Int) (msg sig : List UInt8) : (bckR nm q msg sig).length = 32 := by
  unfold bckR
  split
  · exact sha_length _
  · rfl
theorem okB_len {sig : List UInt8} (h : (!decide ((sig.length : Int) = 4292)) = true) : okB sig = false := by
  have : sig.length ≠ 4292 := by simp at h; omega
  simp [okB, this]
theorem okB_not {sig : List UInt8} (h : (!(sig.take 4 == [0, 0, 0, 2])) = true) : okB sig = false := by
  have h2 : (sig.take 4 == [0, 0, 0, 2]) = false := by simpa using h
  unfold okB
  rw [h2, Bool.and_false]
theorem okB_yes {sig : List UInt8} (hl : sig.length = 4292) (h : (!(sig.take 4 == [0, 0, 0, 2])) = false) : okB sig = true := by
  have h2 : (sig.take 4 == [0, 0, 0, 2]) = true := by simpa using h
  unfold okB
  rw [h2, hl]
  rfl
theorem idTo_setA {l : List UInt8} {a k : Nat} (hl : 32 ≤ (l.drop a).length) (hk : k < 32) : (bs (idTo (l.drop a) k)).set (0 + (k : Int).toNat) (bv (at0 l (a + k))) = bs (idTo (l.drop a) (k + 1)) := by
  rw [Nat.zero_add, Int.toNat_natCast, ← at0_off]
  exact idTo_set _ hl hk
/-- A name, the first k bytes of it. -/
def nmTo (l : List UInt8) (k : Nat) : List UInt8 := l.take k ++ List.replicate (16 - k) 0
theorem nmTo_zero (l : List UInt8) : nmTo l 0 = List.replicate 16 0 := by simp [nmTo]
theorem nmTo_length {l : List UInt8} {k : Nat} (hl : 16 ≤ l.length) (hk : k ≤ 16) : (nmTo l k).length = 16 := by simp [nmTo]; omega
theorem nmTo_all (l : List UInt8) : nmTo l 16 = l.take 16 := by simp [nmTo]
theorem nmTo_set {l : List UInt8} {k : Nat} (hl : 16 ≤ l.length) (hk : k < 16) : (bs (nmTo l k)).set k (bv (at0 l k)) = bs (nmTo l (k + 1)) := by
  have e : (bs (nmTo l k)).set k (bv (at0 l k)) = bs ((nmTo l k).set k (at0 l k)) := by simp [bs, List.map_set]
  rw [e]
  congr 1
  unfold nmTo
  have hl2 : (l.take k).length = k := by simp; omega
  have er : List.replicate (16 - k) (0 : UInt8) = 0 :: List.replicate (16 - (k + 1)) 0 := by rw [show 16 - k = (16 - (k + 1)) + 1 by omega]; rfl
  rw [List.set_append_right _ _ (by omega), hl2, Nat.sub_self, er, List.set_cons_zero, List.take_add_one, List.append_assoc]
  congr 1
  rw [List.getElem?_eq_getElem (by omega)]
  simp [at0, List.getElem?_eq_getElem (show k < l.length by omega)]
/-- The trees of two leaves, as they grow. -/
def trA (nm seed : List UInt8) (x : Nat) : List (List UInt8) := [zeroId, zeroId, if 0 < x then leafT nm seed 0 else zeroId, if 1 < x then leafT nm seed 1 else zeroId]
def trB (nm seed : List UInt8) (x : Nat) : List (List UInt8) := [zeroId, if 0 < x then topT nm seed else zeroId, leafT nm seed 0, leafT nm seed 1]
theorem leafT_length (nm seed : List UInt8) (q : Nat) : (leafT nm seed q).length = 32 := sha_length _
theorem topT_length (nm seed : List UInt8) : (topT nm seed).length = 32 := sha_length _
theorem trA_ids (nm seed : List UInt8) (x : Nat) : Ids (trA nm seed x) := by
  intro y hy
  simp only [trA, List.mem_cons, List.not_mem_nil, or_false] at hy
  rcases hy with rfl | rfl | rfl | rfl
  · rfl
  · rfl
  · split
    · exact leafT_length _ _ _
    · rfl
  · split
    · exact leafT_length _ _ _
    · rfl
theorem trB_ids (nm seed : List UInt8) (x : Nat) : Ids (trB nm seed x) := by
  intro y hy
  simp only [trB, List.mem_cons, List.not_mem_nil, or_false] at hy
  rcases hy with rfl | rfl | rfl | rfl
  · rfl
  · split
    · exact topT_length _ _
    · rfl
  · exact leafT_length _ _ _
  · exact leafT_length _ _ _
theorem trA_set (nm seed : List UInt8) {x : Nat} (hx : x < 2) : (trA nm seed x).set (2 + x) (leafT nm seed x) = trA nm seed (x + 1) := by
  obtain rfl | rfl : x = 0 ∨ x = 1 := by omega
  · rfl
  · rfl
theorem trA_zero (nm seed : List UInt8) : trA nm seed 0 = List.replicate 4 zeroId := rfl
theorem trA_full (nm seed : List UInt8) : trA nm seed 2 = trB nm seed 0 := rfl
theorem trB_set (nm seed : List UInt8) : (trB nm seed 0).set 1 (topT nm seed) = trB nm seed 1 := rfl
theorem trB_leaf (nm seed : List UInt8) (x : Nat) {q : Nat} (hq : q < 2) : (trB nm seed x).getD (2 + q) [] = leafT nm seed q := by
  obtain rfl | rfl : q = 0 ∨ q = 1 := by omega
  · rfl
  · rfl
theorem xor_two {q : Nat} (h : q < 2) : bits .xor .i64 ((2 + q : Nat) : Int) 1 = ((2 + (1 - q) : Nat) : Int) := by
  obtain rfl | rfl : q = 0 ∨ q = 1 := by omega
  · decide
  · decide
/-- What a check comes to. -/
theorem checkT_pub {pub msg sig : List UInt8} (h : badPub pub) : checkT pub msg sig = 11 := by unfold checkT; rw [if_pos h]
theorem checkT_sig {pub msg sig : List UInt8} (h : ¬ badPub pub) (h2 : badSig (val pub 4) sig) : checkT pub msg sig = 12 := by unfold checkT; rw [if_neg h, if_pos h2]
theorem checkT_front {pub msg sig : List UInt8} (h : ¬ badPub pub) (h2 : ¬ badSig (val pub 4) sig) (h3 : okB ((sig.drop 4).take 4292) = false) : checkT pub msg sig = 12 := by
  unfold checkT
  rw [if_neg h, if_neg h2, if_pos]
  intro h4
  have hl : ((sig.drop 4).take 4292).length = 4292 := by unfold badSig at h2; rw [List.length_take, List.length_drop]; omega
  unfold okB at h3
  rw [hl, List.take_take, show min 4 4292 = 4 from rfl, h4] at h3
  exact absurd h3 (by decide)
theorem checkT_at {pub msg sig : List UInt8} (h : ¬ badPub pub) (h2 : ¬ badSig (val pub 4) sig) (h3 : okB ((sig.drop 4).take 4292) = true) : checkT pub msg sig = if rootT pub msg sig == pub.drop 24 then 0 else 12 := by
  unfold checkT
  have h4 : (sig.drop 4).take 4 = [0, 0, 0, 2] := by
    unfold okB at h3
    rw [Bool.and_eq_true, List.take_take] at h3
    exact eq_of_beq h3.2
  rw [if_neg h, if_neg h2, if_neg (fun h => h h4)]
  by_cases hr : rootT pub msg sig = pub.drop 24
  · rw [if_pos hr, if_pos (by rw [hr]; exact beq_self_eq_true _)]
  · rw [if_neg hr, if_neg (by simpa using hr)]
theorem climb_succ (nm : List UInt8) (k r : Nat) (t p : List UInt8) : climb nm (k + 1) r t p = climb nm k (r / 2) (nodH nm ((r / 2 : Nat) : Int) 131 (if r % 2 = 1 then p.take 32 ++ t else t ++ p.take 32)) (p.drop 32) := rfl
end Go.Proofs.Ytinamipkpdlphaa
/- The document's signatures for once: what checks them. -/
namespace Go.Proofs.Ytinamipkpdlphaa
open Go.RowKit
set_option linter.unusedVariables false
set_option linter.unusedSimpArgs false
set_option maxRecDepth 8000

theorem back5_spec (nm : List UInt8) (hn : nm.length = 16) (q : Int) (mv sv : Value) (msg sig : List UInt8) (hml : msg.length ≤ 1000000) (F : HP) (hm : ∀ h, F h → rdB mv msg h) (hsg : ∀ h, F h → rdB sv sig h) : CallsS Try.prog 52 #[idV nm, .int .i64 q, mv, sv] F [] (fun r Ps => r = .tuple #[idV (bckR nm q msg sig), .int .i64 (bckE sig)] ∧ Ps = []) := by
  refine callsS_enter Try.func52 rfl Try.ntmps52 (by simp) (fun E => ?_)
  refine W_seq ?_
  refine W.pre (K' := [(0, _), (1, _), (2, _), (3, _)]) (L' := [(0, _)]) ?_ ⟨rfl, ⟨rfl, ⟨rfl, ⟨rfl, trivial⟩⟩⟩⟩ ⟨rfl, trivial⟩
  refine W_regL (WL_cons rfl rfl (by decide) (OpT_box (r := 101) rfl rfl rfl (fun g101 => (WL_cons rfl rfl (by decide) (OpT_alloc (r := 102) (cs := (bs zeroId)) rfl (zero_run (by kernel_rfl : (Try.prog.info? 29).bind (·.zero) = some (.agg (bs zeroId).toArray))) rfl (fun g102 => (WL_pure rfl rfl (by decide) (Pu_assign rfl rfl) (WL_nil (X_then ?_)))))))))
  refine W_seq ?_
  refine W_seq ?_
  refine W.pre (K' := [(0, _), (1, _), (2, _), (3, _), (4, _), (8, _), (9, _)]) (L' := [(0, _), (101, _), (102, _)]) ?_ ⟨rfl, ⟨rfl, ⟨rfl, ⟨rfl, ⟨rfl, ⟨rfl, ⟨rfl, trivial⟩⟩⟩⟩⟩⟩⟩ ⟨rfl, ⟨rfl, ⟨rfl, trivial⟩⟩⟩
  refine W_nilRow 185 5 1 ?_
  rcases Bool.eq_false_or_eq_true (!decide ((sig.length : Int) = 4292)) with hsp1 | hsp1
  ·
    have hno := okB_len hsp1
    refine W_draw (N := 11) (by kernel_rfl) rfl [(0, _), (101, _), (102, _)] ⟨rfl, ⟨rfl, ⟨rfl, trivial⟩⟩⟩ ?_
    refine (AH_take 0 rfl (by kernel_rfl) (by kernel_rfl) (by kernel_rfl) rfl rfl (by decide) (Pu_move rfl rfl) (AH_take 1 rfl (by kernel_rfl) (by kernel_rfl) (by kernel_rfl) rfl rfl (by decide) (Pu_len (r := 0) rfl Try.runUnderlying30 rfl rfl hsg) (AH_take 2 rfl (by kernel_rfl) (by kernel_rfl) (by kernel_rfl) rfl rfl (by decide) (Pu_bin rfl rfl rfl (run_neq _ _ _ _ _ _)) (AH_take 3 rfl (by kernel_rfl) (by kernel_rfl) (by kernel_rfl) rfl rfl (by decide) (Pu_move rfl rfl) (AH_takeF 4 rfl (by kernel_rfl) (by kernel_rfl) (by kernel_rfl) rfl rfl rfl (by rw [hsp1]; rfl) rfl (by decide) (AH_takeF 5 rfl (by kernel_rfl) (by kernel_rfl) (by kernel_rfl) rfl rfl rfl (by rw [hsp1]; rfl) rfl (by decide) (AH_takeF 6 rfl (by kernel_rfl) (by kernel_rfl) (by kernel_rfl) rfl rfl rfl (by rw [hsp1]; rfl) rfl (by decide) (AH_ready [7] (by kernel_rfl) (by decide) ?_))))))))
    refine AHs_gF rfl rfl rfl rfl (by rw [hsp1]; rfl) rfl (by decide) ?_ ?_
    ·
      refine (AH_ready [8] (by kernel_rfl) (by decide) ?_)
      refine AHs_gF rfl rfl rfl rfl (by rw [hsp1]; rfl) rfl (by decide) ?_ ?_
      ·
        refine (AH_takeF 9 rfl (by kernel_rfl) (by kernel_rfl) (by kernel_rfl) rfl rfl rfl (by rw [hsp1]; rfl) rfl (by decide) (AH_take 10 rfl (by kernel_rfl) (by kernel_rfl) (by kernel_rfl) rfl rfl (by decide) (Pu_pickT rfl rfl hsp1 rfl) (AH_done (by kernel_rfl) (X_then ?_))))
        refine W_true rfl (rfl) ?_
        refine W_seq ?_
        refine W.pre (K' := [(0, _), (1, _), (2, _), (3, _), (4, _), (8, _), (9, _), (26, _)]) (L' := [(0, _), (101, _), (102, _), (185, _)]) ?_ ⟨rfl, ⟨rfl, ⟨rfl, ⟨rfl, ⟨rfl, ⟨rfl, ⟨rfl, ⟨rfl, trivial⟩⟩⟩⟩⟩⟩⟩⟩ ⟨rfl, ⟨rfl, ⟨rfl, ⟨rfl, trivial⟩⟩⟩⟩
        refine W_regL (WL_pure rfl rfl (by decide) (Pu_idZero rfl) (WL_cons0 rfl rfl (OpT_storeAll (r := 102) rfl Try.sizeOf29 rfl rfl rfl rfl rfl (bs_one _) ?_)))
        refine (WL_pure rfl rfl (by decide) (Pu_assign rfl rfl) (WL_nil (X_then ?_)))
        refine W_ret (X_then_ret ?_)
        exact X_ret [] (Ps := []) (resC2 (r := 102) Try.results52 rfl rfl Try.isAgg29 Try.sizeOf29 rfl rfl) rfl (by decide) ⟨by unfold bckR bckE; rw [hno]; rfl, rfl⟩
      exact AHs_nil
    exact AHs_nil
  ·
    have hlen : sig.length = 4292 := by simp at hsp1; omega
    refine W_draw (N := 11) (by kernel_rfl) rfl [(0, _), (101, _), (102, _)] ⟨rfl, ⟨rfl, ⟨rfl, trivial⟩⟩⟩ ?_
    refine (AH_take 0 rfl (by kernel_rfl) (by kernel_rfl) (by kernel_rfl) rfl rfl (by decide) (Pu_move rfl rfl) (AH_take 1 rfl (by kernel_rfl) (by kernel_rfl) (by kernel_rfl) rfl rfl (by decide) (Pu_len (r := 0) rfl Try.runUnderlying30 rfl rfl hsg) (AH_take 2 rfl (by kernel_rfl) (by kernel_rfl) (by kernel_rfl) rfl rfl (by decide) (Pu_bin rfl rfl rfl (run_neq _ _ _ _ _ _)) (AH_take 3 rfl (by kernel_rfl) (by kernel_rfl) (by kernel_rfl) rfl rfl (by decide) (Pu_move rfl rfl) (AH_takeT 4 rfl (by kernel_rfl) (by kernel_rfl) (by kernel_rfl) rfl rfl rfl (by rw [hsp1]; rfl) rfl (by decide) (Pu_move rfl rfl) (AH_takeT 5 rfl (by kernel_rfl) (by kernel_rfl) (by kernel_rfl) rfl rfl rfl (by rw [hsp1]; rfl) rfl (by decide) (Pu_slice (r := 0) (a := 0) (b := 4) rfl Try.runUnderlying30 Try.sizeOf5 rfl rfl hsg (.inl ⟨rfl, rfl⟩) (.inr ⟨_, _, _, rfl, rfl, rfl⟩) (by omega) (by omega)) (AH_takeT 6 rfl (by kernel_rfl) (by kernel_rfl) (by kernel_rfl) rfl rfl rfl (by rw [hsp1]; rfl) rfl (by decide) (Pu_convBS (r := 0) rfl Try.underlying30 Try.underlying5 Try.underlying9 rfl rfl (fun h hp => rdB_sub (hsg h hp) (by omega) (by omega))) (AH_ready [7] (by kernel_rfl) (by decide) ?_))))))))
    refine AHs_gT rfl rfl rfl rfl (by rw [hsp1]; rfl) rfl (by decide) (OpT_call 200 [0, 101, 102] [185] rfl Try.call58 rfl rfl rfl (by decide) (by decide) (four5_spec _ rfl _ [] 2 (by simp) _) (fun v23 Ps23 hR23 => ?_)) ?_
    ·
      subst hR23
      refine ⟨⟨rfl, ⟨rfl, ⟨rfl, trivial⟩⟩⟩, ?_⟩
      refine (AH_ready [8] (by kernel_rfl) (by decide) ?_)
      refine AHs_gT rfl rfl rfl rfl (by rw [hsp1]; rfl) rfl (by decide) (OpT_run (Pu_convBS (r := 200) rfl Try.underlying30 Try.underlying5 Try.underlying9 rfl rfl rowB_rd) ⟨⟨rfl, ⟨rfl, ⟨rfl, trivial⟩⟩⟩, ?_⟩) ?_
      ·
        refine (AH_takeT 9 rfl (by kernel_rfl) (by kernel_rfl) (by kernel_rfl) rfl rfl rfl (by rw [hsp1]; rfl) rfl (by decide) (Pu_bin rfl rfl rfl (run_strNe _ _ _ _ _)) (AH_take 10 rfl (by kernel_rfl) (by kernel_rfl) (by kernel_rfl) rfl rfl (by decide) (Pu_pickF rfl rfl hsp1 rfl) (AH_done (by kernel_rfl) (X_then ?_))))
        refine W_cond rfl (fun hc26 => ?_) (fun hc26 => ?_)
        ·
          have hno : okB sig = false := okB_not hc26
          refine W_seq ?_
          refine W.pre (K' := [(0, _), (1, _), (2, _), (3, _), (4, _), (8, _), (9, _), (26, _)]) (L' := [(0, _), (101, _), (102, _), (200, _)]) ?_ ⟨rfl, ⟨rfl, ⟨rfl, ⟨rfl, ⟨rfl, ⟨rfl, ⟨rfl, ⟨rfl, trivial⟩⟩⟩⟩⟩⟩⟩⟩ ⟨rfl, ⟨rfl, ⟨rfl, ⟨rfl, trivial⟩⟩⟩⟩
          refine W_regL (WL_pure rfl rfl (by decide) (Pu_idZero rfl) (WL_cons0 rfl rfl (OpT_storeAll (r := 102) rfl Try.sizeOf29 rfl rfl rfl rfl rfl (bs_one _) ?_)))
          refine (WL_pure rfl rfl (by decide) (Pu_assign rfl rfl) (WL_nil (X_then ?_)))
          refine W_ret (X_then_ret ?_)
          exact X_ret [] (Ps := []) (resC2 (r := 102) Try.results52 rfl rfl Try.isAgg29 Try.sizeOf29 rfl rfl) rfl (by decide) ⟨by unfold bckR bckE; rw [hno]; rfl, rfl⟩
        ·
          have hyes : okB sig = true := okB_yes hlen hc26
          have hcl : ((sig.drop 4).take 32).length = 32 := by rw [List.length_take, List.length_drop]; omega
          refine W_skip (X_then ?_)
          refine W_cut (α := Nat) (fun z10 => [(1, .int .i64 q), (3, sv), (4, .pointer (some ⟨g101, 0, none⟩)), (8, .pointer (some ⟨g102, 0, none⟩)), (10, .pointer (some ⟨z10, 0, none⟩))]) (fun z10 => [(0, F), (101, blk g101 52 (bs nm)), (102, blk g102 29 (bs zeroId)), (181, blk z10 99 (nsC (digL (digB2 nm q ((sig.drop 4).take 32) msg))))]) (fun z10 => True) ?_ (fun z10 _ => ?_)
          ·
            refine W.pre (K' := [(0, _), (1, _), (2, _), (3, _), (4, _), (8, _), (9, _), (26, _)]) (L' := [(0, _), (101, _), (102, _), (200, _)]) ?_ ⟨rfl, ⟨rfl, ⟨rfl, ⟨rfl, ⟨rfl, ⟨rfl, ⟨rfl, ⟨rfl, trivial⟩⟩⟩⟩⟩⟩⟩⟩ ⟨rfl, ⟨rfl, ⟨rfl, ⟨rfl, trivial⟩⟩⟩⟩
            refine W_draw (N := 8) (by kernel_rfl) rfl [(0, _), (101, _), (102, _)] ⟨rfl, ⟨rfl, ⟨rfl, trivial⟩⟩⟩ ?_
            refine (AH_take 0 rfl (by kernel_rfl) (by kernel_rfl) (by kernel_rfl) rfl rfl (by decide) (Pu_loadBN (r := 101) rfl Try.isAgg52 Try.sizeOf52 rfl rfl ((bs_length _).trans hn) (load_all ((bs_length _).trans hn))) (AH_take 1 rfl (by kernel_rfl) (by kernel_rfl) (by kernel_rfl) rfl rfl (by decide) (Pu_move rfl rfl) (AH_take 2 rfl (by kernel_rfl) (by kernel_rfl) (by kernel_rfl) rfl rfl (by decide) (Pu_move rfl rfl) (AH_take 3 rfl (by kernel_rfl) (by kernel_rfl) (by kernel_rfl) rfl rfl (by decide) (Pu_slice (r := 0) (a := 4) (b := 36) rfl Try.runUnderlying30 Try.sizeOf5 rfl rfl hsg (.inr ⟨_, _, _, rfl, rfl, rfl⟩) (.inr ⟨_, _, _, rfl, rfl, rfl⟩) (by omega) (by omega)) (AH_take 4 rfl (by kernel_rfl) (by kernel_rfl) (by kernel_rfl) rfl rfl (by decide) (Pu_move rfl rfl) (AH_ready [5, 6] (by kernel_rfl) (by decide) ?_))))))
            refine AHs_cons rfl rfl rfl (by decide) (OpT_call 300 [0, 101, 102, 200] [] rfl Try.call57 rfl rfl rfl (by decide) (by decide) (digits5_spec nm hn q _ _ ((sig.drop 4).take 32) msg (by omega) hml _ (rd_star 0 rfl (fun h hp => rdB_sub (hsg h hp) (by omega) (by omega))) (rd_star 0 rfl hm)) (fun v33 Ps33 hR33 => ?_)) ?_
            ·
              obtain ⟨rfl, rfl⟩ := hR33
              refine ⟨⟨rfl, ⟨rfl, ⟨rfl, trivial⟩⟩⟩, ?_⟩
              refine (AH_ready [6] (by kernel_rfl) (by decide) ?_)
              refine AHs_cons rfl rfl rfl (by decide) (OpT_alloc (r := 301) (cs := (nsC (List.replicate 133 0))) rfl (zero_run (by kernel_rfl : (Try.prog.info? 99).bind (·.zero) = some (nsV (List.replicate 133 0)))) rfl (fun g301 => ⟨⟨rfl, ⟨rfl, ⟨rfl, trivial⟩⟩⟩, ?_⟩)) ?_
              ·
                refine (AH_ready [7] (by kernel_rfl) (by decide) ?_)
                refine AHs_cons0 rfl rfl rfl (OpT_storeAll (r := 301) rfl Try.sizeOf99 rfl rfl rfl rfl ((nsC_length _).trans (digL_length _)) (nsC_one _) ?_) ?_
                ·
                  refine ⟨⟨rfl, ⟨rfl, ⟨rfl, trivial⟩⟩⟩, ?_⟩
                  refine (AH_done (by kernel_rfl) ?_)
                  refine X_ren 301 181 rfl ?_
                  exact X_cut g301 trivial ⟨rfl, rfl, rfl, rfl, rfl, trivial⟩ ⟨rfl, rfl, rfl, rfl, trivial⟩
                exact AHs_nil
              exact AHs_nil
            refine AHs_cons rfl rfl rfl (by decide) (OpT_alloc (r := 201) (cs := (nsC (List.replicate 133 0))) rfl (zero_run (by kernel_rfl : (Try.prog.info? 99).bind (·.zero) = some (nsV (List.replicate 133 0)))) rfl (fun g201 => ⟨⟨rfl, ⟨rfl, ⟨rfl, trivial⟩⟩⟩, ?_⟩)) ?_
            ·
              refine (AH_ready [5] (by kernel_rfl) (by decide) ?_)
              refine AHs_cons rfl rfl rfl (by decide) (OpT_call 300 [0, 101, 102, 200, 201] [] rfl Try.call57 rfl rfl rfl (by decide) (by decide) (digits5_spec nm hn q _ _ ((sig.drop 4).take 32) msg (by omega) hml _ (rd_star 0 rfl (fun h hp => rdB_sub (hsg h hp) (by omega) (by omega))) (rd_star 0 rfl hm)) (fun v33 Ps33 hR33 => ?_)) ?_
              ·
                obtain ⟨rfl, rfl⟩ := hR33
                refine ⟨⟨rfl, ⟨rfl, ⟨rfl, trivial⟩⟩⟩, ?_⟩
                refine (AH_ready [7] (by kernel_rfl) (by decide) ?_)
                refine AHs_cons0 rfl rfl rfl (OpT_storeAll (r := 201) rfl Try.sizeOf99 rfl rfl rfl rfl ((nsC_length _).trans (digL_length _)) (nsC_one _) ?_) ?_
                ·
                  refine ⟨⟨rfl, ⟨rfl, ⟨rfl, trivial⟩⟩⟩, ?_⟩
                  refine (AH_done (by kernel_rfl) ?_)
                  refine X_ren 201 181 rfl ?_
                  exact X_cut g201 trivial ⟨rfl, rfl, rfl, rfl, rfl, trivial⟩ ⟨rfl, rfl, rfl, rfl, trivial⟩
                exact AHs_nil
              exact AHs_nil
            exact AHs_nil
          ·
            refine W_seq ?_
            refine W.pre (K' := [(1, _), (3, _), (4, _), (8, _), (10, _)]) (L' := [(0, _), (101, _), (102, _), (181, _)]) ?_ ⟨rfl, ⟨rfl, ⟨rfl, ⟨rfl, ⟨rfl, trivial⟩⟩⟩⟩⟩ ⟨rfl, ⟨rfl, ⟨rfl, ⟨rfl, trivial⟩⟩⟩⟩
            refine W_regL (WL_pure rfl rfl (by decide) (Pu_loadBN (r := 101) rfl Try.isAgg52 Try.sizeOf52 rfl rfl ((bs_length _).trans hn) (load_all ((bs_length _).trans hn))) (WL_pure rfl rfl (by decide) (Pu_move rfl rfl) (WL_cons rfl rfl (by decide) (OpT_call 300 [0, 101, 102, 181] [] rfl Try.call56 rfl rfl rfl (by decide) (by decide) (head5_spec nm hn q _) (fun v36 Ps36 hR36 => ?_)))))
            subst hR36
            refine (WL_cons rfl rfl (by decide) (OpT_buildOnes (r := 301) (bs [128, 128]) rfl rfl Try.runUnderlying30 Try.sizeOf5 Try.zeroValue5 rfl rfl (by decide) rfl (bs_cells _) (fun v37 => (WL_cons rfl rfl (by decide) (OpT_append (r := 300) (r2 := 301) rfl Try.underlying30 TI.hi5 TI.hz5 TI.hs5 TI.hby5 TI.hzs5 (by decide) rfl rfl rfl rfl (fun _ h => rowP_rd h) (bs_one _) (by unfold maxLen; simp [hdL_length hn, numB_length, *] <;> omega) (by simp [hdL_length hn, numB_length, *] <;> omega) (fun v38 => ?_))))))
            refine WL_turn (P' := rowB 5 v38 (hdL nm q ++ [128, 128])) 300 rfl (fun h hp => rowB_mk hp (by simp [hdL_length hn, numB_length, *] <;> omega) (by simp only [bs_append])) ?_
            refine (WL_pure rfl rfl (by decide) (Pu_assign rfl rfl) (WL_nil (X_then ?_)))
            refine W_seq ?_
            refine W_seq ?_
            refine W.pre (K' := [(1, _), (3, _), (4, _), (8, _), (10, _), (11, _)]) (L' := [(0, _), (101, _), (102, _), (181, _), (300, _), (301, _)]) ?_ ⟨rfl, ⟨rfl, ⟨rfl, ⟨rfl, ⟨rfl, ⟨rfl, trivial⟩⟩⟩⟩⟩⟩ ⟨rfl, ⟨rfl, ⟨rfl, ⟨rfl, ⟨rfl, ⟨rfl, trivial⟩⟩⟩⟩⟩⟩
            refine W_regL (WL_pure rfl rfl (by decide) (Pu_assign rfl rfl) (WL_nil (X_then ?_)))
            refine W_block ?_
            refine W_loop (α := Value × Nat) (fun y => [(1, .int .i64 q), (3, sv), (4, .pointer (some ⟨g101, 0, none⟩)), (8, .pointer (some ⟨g102, 0, none⟩)), (10, .pointer (some ⟨z10, 0, none⟩)), (11, y.1), (12, .int .i64 (y.2 : Int))]) (fun y => [(0, F), (101, blk g101 52 (bs nm)), (102, blk g102 29 (bs zeroId)), (181, blk z10 99 (nsC (digL (digB2 nm q ((sig.drop 4).take 32) msg)))), (300, rowB 5 y.1 (hdL nm q ++ [128, 128] ++ rowsC (bckY nm q ((sig.drop 4).take 32) msg sig) y.2))]) (fun y => y.2 ≤ 133) (fun y => 133 - y.2) ((v38, 0)) (by dsimp only; omega) ⟨rfl, ⟨rfl, ⟨rfl, ⟨rfl, ⟨rfl, ⟨rfl, ⟨rfl, trivial⟩⟩⟩⟩⟩⟩⟩ ⟨rfl, rfl, rfl, rfl, look_eq rfl (by rw [rowsC, List.append_nil]), trivial⟩ (fun y hy => ?_)
            have hyl : (rowsC (bckY nm q ((sig.drop 4).take 32) msg sig) y.2).length = 32 * y.2 := rowsC_length fun i hi => bckY_length (by omega)
            refine W_seq ?_
            refine W_seq ?_
            refine W.pre (K' := [(1, _), (3, _), (4, _), (8, _), (10, _), (11, _), (12, _)]) (L' := [(0, _), (101, _), (102, _), (181, _), (300, _)]) ?_ ⟨rfl, ⟨rfl, ⟨rfl, ⟨rfl, ⟨rfl, ⟨rfl, ⟨rfl, trivial⟩⟩⟩⟩⟩⟩⟩ ⟨rfl, ⟨rfl, ⟨rfl, ⟨rfl, ⟨rfl, trivial⟩⟩⟩⟩⟩
            refine W_regL (WL_pure rfl rfl (by decide) (Pu_move rfl rfl) (WL_pure rfl rfl (by decide) (Pu_bin rfl rfl rfl (run_lss _ _ _ _ _ _)) (WL_nil (X_then ?_))))
            refine W_cond rfl (fun hc40 => ?_) (fun hc40 => ?_)
            ·
              have hlt : y.2 < 133 := by have := of_decide_eq_true hc40; omega
              have hdx := digA_lt nm q ((sig.drop 4).take 32) msg y.2
              have hzl : ((sig.drop (36 + 32 * y.2)).take 32).length = 32 := by rw [List.length_take, List.length_drop]; omega
              have hYl : ((bckY nm q ((sig.drop 4).take 32) msg sig) y.2).length = 32 := bckY_length (by omega)
              have hdr : 32 ≤ (sig.drop (36 + 32 * y.2)).length := by rw [List.length_drop]; omega
              refine W_skip (X_then ?_)
              refine W_seq ?_
              refine W_block ?_
              refine W_seq ?_
              refine W.pre (K' := [(1, _), (3, _), (4, _), (8, _), (10, _), (11, _), (12, _), (40, _)]) (L' := [(0, _), (101, _), (102, _), (181, _), (300, _)]) ?_ ⟨rfl, ⟨rfl, ⟨rfl, ⟨rfl, ⟨rfl, ⟨rfl, ⟨rfl, ⟨rfl, trivial⟩⟩⟩⟩⟩⟩⟩⟩ ⟨rfl, ⟨rfl, ⟨rfl, ⟨rfl, ⟨rfl, trivial⟩⟩⟩⟩⟩
              refine W_regL (WL_cons rfl rfl (by decide) (OpT_alloc (r := 302) (cs := (bs zeroId)) rfl (zero_run (by kernel_rfl : (Try.prog.info? 29).bind (·.zero) = some (.agg (bs zeroId).toArray))) rfl (fun g302 => (WL_nil (X_then ?_)))))
              refine W_seq ?_
              refine W_seq ?_
              refine W.pre (K' := [(1, _), (3, _), (4, _), (8, _), (10, _), (11, _), (12, _), (13, _), (40, _)]) (L' := [(0, _), (101, _), (102, _), (181, _), (300, _), (302, _)]) ?_ ⟨rfl, ⟨rfl, ⟨rfl, ⟨rfl, ⟨rfl, ⟨rfl, ⟨rfl, ⟨rfl, ⟨rfl, trivial⟩⟩⟩⟩⟩⟩⟩⟩⟩ ⟨rfl, ⟨rfl, ⟨rfl, ⟨rfl, ⟨rfl, ⟨rfl, trivial⟩⟩⟩⟩⟩⟩
              refine W_regL (WL_pure rfl rfl (by decide) (Pu_assign rfl rfl) (WL_nil (X_then ?_)))
              refine W_block ?_
              refine W_loop (α := Nat) (fun x => [(1, .int .i64 q), (3, sv), (4, .pointer (some ⟨g101, 0, none⟩)), (8, .pointer (some ⟨g102, 0, none⟩)), (10, .pointer (some ⟨z10, 0, none⟩)), (11, y.1), (12, .int .i64 (y.2 : Int)), (13, .pointer (some ⟨g302, 0, none⟩)), (14, .int .i64 (x : Int))]) (fun x => [(0, F), (101, blk g101 52 (bs nm)), (102, blk g102 29 (bs zeroId)), (181, blk z10 99 (nsC (digL (digB2 nm q ((sig.drop 4).take 32) msg)))), (300, rowB 5 y.1 (hdL nm q ++ [128, 128] ++ rowsC (bckY nm q ((sig.drop 4).take 32) msg sig) y.2)), (302, blk g302 29 (bs (idTo (sig.drop (36 + 32 * y.2)) x)))]) (fun x => x ≤ 32) (fun x => 32 - x) (0) (by omega) ⟨rfl, ⟨rfl, ⟨rfl, ⟨rfl, ⟨rfl, ⟨rfl, ⟨rfl, ⟨rfl, ⟨rfl, trivial⟩⟩⟩⟩⟩⟩⟩⟩⟩ ⟨rfl, rfl, rfl, rfl, rfl, look_eq rfl (by rw [idTo_zero]), trivial⟩ (fun x hx => ?_)
              have hil := idTo_length (sig.drop (36 + 32 * y.2)) hdr hx
              refine W_seq ?_
              refine W_seq ?_
              refine W.pre (K' := [(1, _), (3, _), (4, _), (8, _), (10, _), (11, _), (12, _), (13, _), (14, _)]) (L' := [(0, _), (101, _), (102, _), (181, _), (300, _), (302, _)]) ?_ ⟨rfl, ⟨rfl, ⟨rfl, ⟨rfl, ⟨rfl, ⟨rfl, ⟨rfl, ⟨rfl, ⟨rfl, trivial⟩⟩⟩⟩⟩⟩⟩⟩⟩ ⟨rfl, ⟨rfl, ⟨rfl, ⟨rfl, ⟨rfl, ⟨rfl, trivial⟩⟩⟩⟩⟩⟩
              refine W_regL (WL_pure rfl rfl (by decide) (Pu_move rfl rfl) (WL_pure rfl rfl (by decide) (Pu_bin rfl rfl rfl (run_lss _ _ _ _ _ _)) (WL_nil (X_then ?_))))
              refine W_cond rfl (fun hc44 => ?_) (fun hc44 => ?_)
              ·
                have hlx : x < 32 := by have := of_decide_eq_true hc44; omega
                refine W_skip (X_then ?_)
                refine W_seq ?_
                refine W_block ?_
                refine W.pre (K' := [(1, _), (3, _), (4, _), (8, _), (10, _), (11, _), (12, _), (13, _), (14, _), (44, _)]) (L' := [(0, _), (101, _), (102, _), (181, _), (300, _), (302, _)]) ?_ ⟨rfl, ⟨rfl, ⟨rfl, ⟨rfl, ⟨rfl, ⟨rfl, ⟨rfl, ⟨rfl, ⟨rfl, ⟨rfl, trivial⟩⟩⟩⟩⟩⟩⟩⟩⟩⟩ ⟨rfl, ⟨rfl, ⟨rfl, ⟨rfl, ⟨rfl, ⟨rfl, trivial⟩⟩⟩⟩⟩⟩
                refine W_regL (WL_pure rfl rfl (by decide) (Pu_move rfl rfl) (WL_pure rfl rfl (by decide) (Pu_move rfl rfl) (WL_pure rfl rfl (by decide) (Pu_move rfl rfl) (WL_pure rfl rfl (by decide) (Pu_bin rfl rfl rfl (run_mul _ _ _ _ _ (by omega))) (WL_pure rfl rfl (by decide) (Pu_bin rfl rfl rfl (run_add _ _ _ _ _ (by omega))) (WL_pure rfl rfl (by decide) (Pu_move rfl rfl) (WL_pure rfl rfl (by decide) (Pu_bin rfl rfl rfl (run_add _ _ _ _ _ (by omega))) (WL_pure rfl rfl (by decide) (Pu_idxS1 (r := 0) rfl Try.runUnderlying30 Try.sizeOf5 rfl rfl rfl hsg (by omega)) (WL_pure rfl rfl (by decide) (Pu_loadS (r := 0) rfl Try.isAgg5 rfl rfl hsg (bs_at1 (k := 36 + 32 * y.2 + x) (by omega))) (WL_pure rfl rfl (by decide) (Pu_idxA rfl Try.runUnderlying29 Try.sizeOf5 rfl rfl (by omega)) (WL_cons0 rfl rfl (OpT_storeB1 (r := 302) rfl Try.sizeOf5 rfl rfl rfl rfl (by rw [bs_length, hil]; omega) (idTo_setA hdr hlx) ?_))))))))))))
                refine (WL_nil (X_block (X_then ?_)))
                refine W.pre (K' := [(1, _), (3, _), (4, _), (8, _), (10, _), (11, _), (12, _), (13, _), (14, _), (44, _)]) (L' := [(0, _), (101, _), (102, _), (181, _), (300, _), (302, _)]) ?_ ⟨rfl, ⟨rfl, ⟨rfl, ⟨rfl, ⟨rfl, ⟨rfl, ⟨rfl, ⟨rfl, ⟨rfl, ⟨rfl, trivial⟩⟩⟩⟩⟩⟩⟩⟩⟩⟩ ⟨rfl, ⟨rfl, ⟨rfl, ⟨rfl, ⟨rfl, ⟨rfl, trivial⟩⟩⟩⟩⟩⟩
                refine W_regL (WL_pure rfl rfl (by decide) (Pu_move rfl rfl) (WL_pure rfl rfl (by decide) (Pu_bin rfl rfl rfl (run_add _ _ _ _ _ (by omega))) (WL_pure rfl rfl (by decide) (Pu_assign rfl rfl) (WL_nil ?_))))
                exact X_round (x + 1) (by omega) (by omega) ⟨rfl, rfl, rfl, rfl, rfl, rfl, rfl, rfl, rfl, trivial⟩ ⟨rfl, rfl, rfl, rfl, rfl, rfl, trivial⟩
              ·
                obtain rfl : x = 32 := by have := of_decide_eq_false hc44; omega
                rw [idTo_all]
                refine W_exit (X_then_exit (X_then_exit (X_block_exit (X_then ?_))))
                refine W_seq ?_
                refine W.pre (K' := [(1, _), (3, _), (4, _), (8, _), (10, _), (11, _), (12, _), (13, _), (14, _), (44, _)]) (L' := [(0, _), (101, _), (102, _), (181, _), (300, _), (302, _)]) ?_ ⟨rfl, ⟨rfl, ⟨rfl, ⟨rfl, ⟨rfl, ⟨rfl, ⟨rfl, ⟨rfl, ⟨rfl, ⟨rfl, trivial⟩⟩⟩⟩⟩⟩⟩⟩⟩⟩ ⟨rfl, ⟨rfl, ⟨rfl, ⟨rfl, ⟨rfl, ⟨rfl, trivial⟩⟩⟩⟩⟩⟩
                refine W_draw (N := 10) (by kernel_rfl) rfl [(0, _), (101, _), (102, _), (181, _), (302, _)] ⟨rfl, ⟨rfl, ⟨rfl, ⟨rfl, ⟨rfl, trivial⟩⟩⟩⟩⟩ ?_
                refine (AH_take 0 rfl (by kernel_rfl) (by kernel_rfl) (by kernel_rfl) rfl rfl (by decide) (Pu_loadBN (r := 101) rfl Try.isAgg52 Try.sizeOf52 rfl rfl ((bs_length _).trans hn) (load_all ((bs_length _).trans hn))) (AH_take 1 rfl (by kernel_rfl) (by kernel_rfl) (by kernel_rfl) rfl rfl (by decide) (Pu_move rfl rfl) (AH_take 2 rfl (by kernel_rfl) (by kernel_rfl) (by kernel_rfl) rfl rfl (by decide) (Pu_move rfl rfl) (AH_take 3 rfl (by kernel_rfl) (by kernel_rfl) (by kernel_rfl) rfl rfl (by decide) (Pu_move rfl rfl) (AH_take 4 rfl (by kernel_rfl) (by kernel_rfl) (by kernel_rfl) rfl rfl (by decide) (Pu_idxA rfl Try.runUnderlying99 Try.sizeOf3 rfl rfl (by omega)) (AH_take 5 rfl (by kernel_rfl) (by kernel_rfl) (by kernel_rfl) rfl rfl (by decide) (Pu_loadB (r := 181) rfl Try.isAgg3 rfl rfl (digA_get nm q ((sig.drop 4).take 32) msg hlt)) (AH_take 6 rfl (by kernel_rfl) (by kernel_rfl) (by kernel_rfl) rfl rfl (by decide) (Pu_loadBN (r := 302) rfl Try.isAgg29 Try.sizeOf29 rfl rfl ((bs_length _).trans hzl) (load_all ((bs_length _).trans hzl))) (AH_ready [7, 8] (by kernel_rfl) (by decide) ?_))))))))
                refine AHs_cons rfl rfl rfl (by decide) (OpT_call 400 [0, 101, 102, 181, 300, 302] [] rfl Try.call59 rfl rfl rfl (by decide) (by decide) (walk5_spec nm hn q y.2 (digA nm q ((sig.drop 4).take 32) msg y.2) 3 (by omega) (by omega) ((sig.drop (36 + 32 * y.2)).take 32) hzl _) (fun v64 Ps64 hR64 => ?_)) ?_
                ·
                  obtain ⟨rfl, rfl⟩ := hR64
                  refine ⟨⟨rfl, ⟨rfl, ⟨rfl, ⟨rfl, ⟨rfl, trivial⟩⟩⟩⟩⟩, ?_⟩
                  refine (AH_ready [8] (by kernel_rfl) (by decide) ?_)
                  refine AHs_cons rfl rfl rfl (by decide) (OpT_alloc (r := 401) (cs := (bs zeroId)) rfl (zero_run (by kernel_rfl : (Try.prog.info? 29).bind (·.zero) = some (.agg (bs zeroId).toArray))) rfl (fun g401 => ⟨⟨rfl, ⟨rfl, ⟨rfl, ⟨rfl, ⟨rfl, trivial⟩⟩⟩⟩⟩, ?_⟩)) ?_
                  ·
                    refine (AH_ready [9] (by kernel_rfl) (by decide) ?_)
                    refine AHs_cons0 rfl rfl rfl (OpT_storeAll (r := 401) rfl Try.sizeOf29 rfl rfl rfl rfl ((bs_length _).trans hYl) (bs_one _) ?_) ?_
                    ·
                      refine ⟨⟨rfl, ⟨rfl, ⟨rfl, ⟨rfl, ⟨rfl, trivial⟩⟩⟩⟩⟩, ?_⟩
                      refine (AH_done (by kernel_rfl) (X_then ?_))
                      refine W.pre (K' := [(1, _), (3, _), (4, _), (8, _), (10, _), (11, _), (12, _), (13, _), (14, _), (15, _), (44, _)]) (L' := [(0, _), (101, _), (102, _), (181, _), (300, _), (302, _), (401, _)]) ?_ ⟨rfl, ⟨rfl, ⟨rfl, ⟨rfl, ⟨rfl, ⟨rfl, ⟨rfl, ⟨rfl, ⟨rfl, ⟨rfl, ⟨rfl, trivial⟩⟩⟩⟩⟩⟩⟩⟩⟩⟩⟩ ⟨rfl, ⟨rfl, ⟨rfl, ⟨rfl, ⟨rfl, ⟨rfl, ⟨rfl, trivial⟩⟩⟩⟩⟩⟩⟩
                      refine W_regL (WL_pure rfl rfl (by decide) (Pu_move rfl rfl) (WL_pure rfl rfl (by decide) (Pu_sliceArr rfl Try.runUnderlying29 Try.sizeOf5 rfl) (WL_cons rfl rfl (by decide) (OpT_append (r := 300) (r2 := 401) rfl Try.underlying30 TI.hi5 TI.hz5 TI.hs5 TI.hby5 TI.hzs5 (by decide) rfl rfl rfl rfl (fun _ h => blk_all h hYl) (bs_one _) (by unfold maxLen; simp [hdL_length hn, hyl] <;> omega) (by simp [hdL_length hn, hyl] <;> omega) (fun v67 => ?_)))))
                      refine WL_turn (P' := rowB 5 v67 (hdL nm q ++ [128, 128] ++ rowsC (bckY nm q ((sig.drop 4).take 32) msg sig) (y.2 + 1))) 300 rfl (fun h hp => rowB_mk hp (rows_len hYl) (rows_step _ (bckY nm q ((sig.drop 4).take 32) msg sig) y.2)) ?_
                      refine (WL_pure rfl rfl (by decide) (Pu_assign rfl rfl) (WL_nil (X_block (X_then ?_))))
                      refine W.pre (K' := [(1, _), (3, _), (4, _), (8, _), (10, _), (11, _), (12, _), (13, _), (14, _), (15, _), (44, _)]) (L' := [(0, _), (101, _), (102, _), (181, _), (300, _), (302, _), (401, _)]) ?_ ⟨rfl, ⟨rfl, ⟨rfl, ⟨rfl, ⟨rfl, ⟨rfl, ⟨rfl, ⟨rfl, ⟨rfl, ⟨rfl, ⟨rfl, trivial⟩⟩⟩⟩⟩⟩⟩⟩⟩⟩⟩ ⟨rfl, ⟨rfl, ⟨rfl, ⟨rfl, ⟨rfl, ⟨rfl, ⟨rfl, trivial⟩⟩⟩⟩⟩⟩⟩
                      refine W_regL (WL_pure rfl rfl (by decide) (Pu_move rfl rfl) (WL_pure rfl rfl (by decide) (Pu_bin rfl rfl rfl (run_add _ _ _ _ _ (by omega))) (WL_pure rfl rfl (by decide) (Pu_assign rfl rfl) (WL_nil ?_))))
                      exact X_round (v67, y.2 + 1) (by dsimp only; omega) (by show 133 - (y.2 + 1) < 133 - y.2; omega) ⟨rfl, rfl, rfl, rfl, rfl, rfl, rfl, trivial⟩ ⟨rfl, rfl, rfl, rfl, rfl, trivial⟩
                    exact AHs_nil
                  exact AHs_nil
                refine AHs_cons rfl rfl rfl (by decide) (OpT_alloc (r := 303) (cs := (bs zeroId)) rfl (zero_run (by kernel_rfl : (Try.prog.info? 29).bind (·.zero) = some (.agg (bs zeroId).toArray))) rfl (fun g303 => ⟨⟨rfl, ⟨rfl, ⟨rfl, ⟨rfl, ⟨rfl, trivial⟩⟩⟩⟩⟩, ?_⟩)) ?_
                ·
                  refine (AH_ready [7] (by kernel_rfl) (by decide) ?_)
                  refine AHs_cons rfl rfl rfl (by decide) (OpT_call 400 [0, 101, 102, 181, 300, 302, 303] [] rfl Try.call59 rfl rfl rfl (by decide) (by decide) (walk5_spec nm hn q y.2 (digA nm q ((sig.drop 4).take 32) msg y.2) 3 (by omega) (by omega) ((sig.drop (36 + 32 * y.2)).take 32) hzl _) (fun v64 Ps64 hR64 => ?_)) ?_
                  ·
                    obtain ⟨rfl, rfl⟩ := hR64
                    refine ⟨⟨rfl, ⟨rfl, ⟨rfl, ⟨rfl, ⟨rfl, trivial⟩⟩⟩⟩⟩, ?_⟩
                    refine (AH_ready [9] (by kernel_rfl) (by decide) ?_)
                    refine AHs_cons0 rfl rfl rfl (OpT_storeAll (r := 303) rfl Try.sizeOf29 rfl rfl rfl rfl ((bs_length _).trans hYl) (bs_one _) ?_) ?_
                    ·
                      refine ⟨⟨rfl, ⟨rfl, ⟨rfl, ⟨rfl, ⟨rfl, trivial⟩⟩⟩⟩⟩, ?_⟩
                      refine (AH_done (by kernel_rfl) (X_then ?_))
                      refine W.pre (K' := [(1, _), (3, _), (4, _), (8, _), (10, _), (11, _), (12, _), (13, _), (14, _), (15, _), (44, _)]) (L' := [(0, _), (101, _), (102, _), (181, _), (300, _), (302, _), (303, _)]) ?_ ⟨rfl, ⟨rfl, ⟨rfl, ⟨rfl, ⟨rfl, ⟨rfl, ⟨rfl, ⟨rfl, ⟨rfl, ⟨rfl, ⟨rfl, trivial⟩⟩⟩⟩⟩⟩⟩⟩⟩⟩⟩ ⟨rfl, ⟨rfl, ⟨rfl, ⟨rfl, ⟨rfl, ⟨rfl, ⟨rfl, trivial⟩⟩⟩⟩⟩⟩⟩
                      refine W_regL (WL_pure rfl rfl (by decide) (Pu_move rfl rfl) (WL_pure rfl rfl (by decide) (Pu_sliceArr rfl Try.runUnderlying29 Try.sizeOf5 rfl) (WL_cons rfl rfl (by decide) (OpT_append (r := 300) (r2 := 303) rfl Try.underlying30 TI.hi5 TI.hz5 TI.hs5 TI.hby5 TI.hzs5 (by decide) rfl rfl rfl rfl (fun _ h => blk_all h hYl) (bs_one _) (by unfold maxLen; simp [hdL_length hn, hyl] <;> omega) (by simp [hdL_length hn, hyl] <;> omega) (fun v67 => ?_)))))
                      refine WL_turn (P' := rowB 5 v67 (hdL nm q ++ [128, 128] ++ rowsC (bckY nm q ((sig.drop 4).take 32) msg sig) (y.2 + 1))) 300 rfl (fun h hp => rowB_mk hp (rows_len hYl) (rows_step _ (bckY nm q ((sig.drop 4).take 32) msg sig) y.2)) ?_
                      refine (WL_pure rfl rfl (by decide) (Pu_assign rfl rfl) (WL_nil (X_block (X_then ?_))))
                      refine W.pre (K' := [(1, _), (3, _), (4, _), (8, _), (10, _), (11, _), (12, _), (13, _), (14, _), (15, _), (44, _)]) (L' := [(0, _), (101, _), (102, _), (181, _), (300, _), (302, _), (303, _)]) ?_ ⟨rfl, ⟨rfl, ⟨rfl, ⟨rfl, ⟨rfl, ⟨rfl, ⟨rfl, ⟨rfl, ⟨rfl, ⟨rfl, ⟨rfl, trivial⟩⟩⟩⟩⟩⟩⟩⟩⟩⟩⟩ ⟨rfl, ⟨rfl, ⟨rfl, ⟨rfl, ⟨rfl, ⟨rfl, ⟨rfl, trivial⟩⟩⟩⟩⟩⟩⟩
                      refine W_regL (WL_pure rfl rfl (by decide) (Pu_move rfl rfl) (WL_pure rfl rfl (by decide) (Pu_bin rfl rfl rfl (run_add _ _ _ _ _ (by omega))) (WL_pure rfl rfl (by decide) (Pu_assign rfl rfl) (WL_nil ?_))))
                      exact X_round (v67, y.2 + 1) (by dsimp only; omega) (by show 133 - (y.2 + 1) < 133 - y.2; omega) ⟨rfl, rfl, rfl, rfl, rfl, rfl, rfl, trivial⟩ ⟨rfl, rfl, rfl, rfl, rfl, trivial⟩
                    exact AHs_nil
                  exact AHs_nil
                exact AHs_nil
            ·
              have hye : y.2 = 133 := by have := of_decide_eq_false hc40; omega
              rw [hye] at hyl ⊢
              refine W_exit (X_then_exit (X_then_exit (X_block_exit (X_then ?_))))
              refine W_seq ?_
              refine W.pre (K' := [(1, _), (3, _), (4, _), (8, _), (10, _), (11, _), (12, _), (40, _)]) (L' := [(0, _), (101, _), (102, _), (181, _), (300, _)]) ?_ ⟨rfl, ⟨rfl, ⟨rfl, ⟨rfl, ⟨rfl, ⟨rfl, ⟨rfl, ⟨rfl, trivial⟩⟩⟩⟩⟩⟩⟩⟩ ⟨rfl, ⟨rfl, ⟨rfl, ⟨rfl, ⟨rfl, trivial⟩⟩⟩⟩⟩
              refine W_regL (WL_pure rfl rfl (by decide) (Pu_move rfl rfl) (WL_cons rfl rfl (by decide) (OpT_call 400 [0, 101, 102, 181, 300] [] rfl Try.call14 rfl rfl rfl (by decide) (by decide) (refSum_spec y.1 (hdL nm q ++ [128, 128] ++ rowsC (bckY nm q ((sig.drop 4).take 32) msg sig) 133) (by simp [hdL_length hn, hyl]) _ (rd_star 4 rfl rowB_rd)) (fun v69 Ps69 hR69 => ?_))))
              obtain ⟨rfl, rfl⟩ := hR69
              refine (WL_cons0 rfl rfl (OpT_storeAll (r := 102) rfl Try.sizeOf29 rfl rfl rfl rfl ((bs_length _).trans (sha_length _)) (bs_one _) ?_))
              refine (WL_pure rfl rfl (by decide) (Pu_assign rfl rfl) (WL_nil (X_then ?_)))
              refine W_ret ?_
              exact X_ret [] (Ps := []) (resC2 (r := 102) Try.results52 rfl rfl Try.isAgg29 Try.sizeOf29 rfl ((bs_length _).trans (sha_length _))) rfl (by decide) ⟨by unfold bckR bckE; rw [hyes]; rfl, rfl⟩
      exact AHs_nil
    exact AHs_nil
end Go.Proofs.Ytinamipkpdlphaa
/- The document's trees of signatures: nodes. -/
namespace Go.Proofs.Ytinamipkpdlphaa
open Go.RowKit
set_option linter.unusedVariables false
set_option linter.unusedSimpArgs false
set_option maxRecDepth 8000

theorem four6_spec (e : TypeId) (he : e = 5) (v : Value) (l : List UInt8) (n : Int) (hl : l.length ≤ 100000000) (F : HP) : CallsS Try.prog 37 #[v, .int .i64 n] F [rowB e v l] (fun r Ps => Ps = [rowB e r (l ++ numB n 4)]) := by
  subst he
  unfold rowB
  refine callsS_enter Try.func37 rfl Try.ntmps37 (by simp) (fun E => ?_)
  refine W_seq ?_
  refine W.pre (K' := [(0, _), (1, _)]) (L' := [(0, _), (1, _)]) ?_ ⟨rfl, ⟨rfl, trivial⟩⟩ ⟨rfl, ⟨rfl, trivial⟩⟩
  refine W_regL (WL_pure rfl rfl (by decide) (Pu_assign rfl rfl) (WL_nil (X_then ?_)))
  refine W_seq ?_
  refine W.pre (K' := [(0, _), (1, _), (4, _)]) (L' := [(0, _), (1, _)]) ?_ ⟨rfl, ⟨rfl, ⟨rfl, trivial⟩⟩⟩ ⟨rfl, ⟨rfl, trivial⟩⟩
  refine W_regL (WL_pure rfl rfl (by decide) (Pu_move rfl rfl) (WL_pure rfl rfl (by decide) (Pu_move rfl rfl) (WL_pure rfl rfl (by decide) (Pu_bin rfl rfl rfl (run_shr _ 24 _ _ _ (by omega))) (WL_pure rfl rfl (by decide) (Pu_conv rfl rfl (conv_byte _ _ Try.runUnderlying3 Try.runUnderlying5)) (WL_pure rfl rfl (by decide) (Pu_move rfl rfl) (WL_pure rfl rfl (by decide) (Pu_bin rfl rfl rfl (run_shr _ 16 _ _ _ (by omega))) (WL_pure rfl rfl (by decide) (Pu_conv rfl rfl (conv_byte _ _ Try.runUnderlying3 Try.runUnderlying5)) (WL_pure rfl rfl (by decide) (Pu_move rfl rfl) (WL_pure rfl rfl (by decide) (Pu_bin rfl rfl rfl (run_shr _ 8 _ _ _ (by omega))) (WL_pure rfl rfl (by decide) (Pu_conv rfl rfl (conv_byte _ _ Try.runUnderlying3 Try.runUnderlying5)) (WL_pure rfl rfl (by decide) (Pu_move rfl rfl) (WL_pure rfl rfl (by decide) (Pu_conv rfl rfl (conv_byte _ _ Try.runUnderlying3 Try.runUnderlying5)) (WL_cons rfl rfl (by decide) (OpT_buildOnes (r := 101) (bs (numB n 4)) rfl rfl Try.runUnderlying30 Try.sizeOf5 Try.zeroValue5 rfl rfl (by decide) (by rw [numB_four]; rfl) (bs_cells _) (fun v17 => (WL_cons rfl rfl (by decide) (OpT_append (r := 1) (r2 := 101) rfl Try.underlying30 TI.hi5 TI.hz5 TI.hs5 TI.hby5 TI.hzs5 (by decide) rfl rfl rfl rfl (fun _ h => rowP_rd h) (bs_one _) (by unfold maxLen; omega) (by omega) (fun v18 => ?_))))))))))))))))))
  refine (WL_pure rfl rfl (by decide) (Pu_assign rfl rfl) (WL_nil (X_then ?_)))
  refine W_ret ?_
  exact X_ret [1] (Ps := [_]) (res1 Try.results37 rfl) rfl (by decide) (congrArg (· :: []) (rowB_of _ (by simp [numB_length]) (by rw [bs_append])))
theorem get6_spec (v : Value) (l : List UInt8) (F : HP) (hF : ∀ h, F h → rdB v l h) (hl : 4 ≤ l.length) : CallsS Try.prog 51 #[v] F [] (fun r Ps => r = .int .i64 (val l 4 : Int) ∧ Ps = []) := by
  refine callsS_enter Try.func51 rfl Try.ntmps51 (by simp) (fun E => ?_)
  refine W_seq ?_
  refine W.pre (K' := [(0, _)]) (L' := [(0, _)]) ?_ ⟨rfl, trivial⟩ ⟨rfl, trivial⟩
  refine W_regL (WL_pure rfl rfl (by decide) (Pu_assign rfl rfl) (WL_nil (X_then ?_)))
  refine W_seq ?_
  refine W.pre (K' := [(0, _), (2, _)]) (L' := [(0, _)]) ?_ ⟨rfl, ⟨rfl, trivial⟩⟩ ⟨rfl, trivial⟩
  refine W_draw (N := 23) (by kernel_rfl) rfl [(0, _)] ⟨rfl, trivial⟩ ?_
  refine (AH_take 0 rfl (by kernel_rfl) (by kernel_rfl) (by kernel_rfl) rfl rfl (by decide) (Pu_move rfl rfl) (AH_take 1 rfl (by kernel_rfl) (by kernel_rfl) (by kernel_rfl) rfl rfl (by decide) (Pu_idxS1 (r := 0) rfl Try.runUnderlying30 Try.sizeOf5 rfl rfl rfl hF (by omega)) (AH_take 2 rfl (by kernel_rfl) (by kernel_rfl) (by kernel_rfl) rfl rfl (by decide) (Pu_loadS (r := 0) rfl Try.isAgg5 rfl rfl hF (bs_at1 (k := 0) (by omega))) (AH_take 3 rfl (by kernel_rfl) (by kernel_rfl) (by kernel_rfl) rfl rfl (by decide) (Pu_conv rfl rfl (conv_u8 _ Try.runUnderlying5 Try.runUnderlying3)) (AH_take 4 rfl (by kernel_rfl) (by kernel_rfl) (by kernel_rfl) rfl rfl (by decide) (Pu_bin rfl rfl rfl (run_shl _ 24 _ _ _ (by have := (at0 l 0).toNat_lt; omega) (by omega))) (AH_take 5 rfl (by kernel_rfl) (by kernel_rfl) (by kernel_rfl) rfl rfl (by decide) (Pu_move rfl rfl) (AH_take 6 rfl (by kernel_rfl) (by kernel_rfl) (by kernel_rfl) rfl rfl (by decide) (Pu_idxS1 (r := 0) rfl Try.runUnderlying30 Try.sizeOf5 rfl rfl rfl hF (by omega)) (AH_take 7 rfl (by kernel_rfl) (by kernel_rfl) (by kernel_rfl) rfl rfl (by decide) (Pu_loadS (r := 0) rfl Try.isAgg5 rfl rfl hF (bs_at1 (k := 1) (by omega))) (AH_take 8 rfl (by kernel_rfl) (by kernel_rfl) (by kernel_rfl) rfl rfl (by decide) (Pu_conv rfl rfl (conv_u8 _ Try.runUnderlying5 Try.runUnderlying3)) (AH_take 9 rfl (by kernel_rfl) (by kernel_rfl) (by kernel_rfl) rfl rfl (by decide) (Pu_bin rfl rfl rfl (run_shl _ 16 _ _ _ (by have := (at0 l 1).toNat_lt; omega) (by omega))) (AH_take 10 rfl (by kernel_rfl) (by kernel_rfl) (by kernel_rfl) rfl rfl (by decide) (Pu_bin rfl rfl rfl (run_or _ _ 24 _ _ _ (by have := (at0 l 0).toNat_lt; have := (at0 l 1).toNat_lt; have := (at0 l 2).toNat_lt; have := (at0 l 3).toNat_lt; omega) (by have := (at0 l 0).toNat_lt; have := (at0 l 1).toNat_lt; have := (at0 l 2).toNat_lt; have := (at0 l 3).toNat_lt; omega) (by have := (at0 l 0).toNat_lt; have := (at0 l 1).toNat_lt; have := (at0 l 2).toNat_lt; have := (at0 l 3).toNat_lt; omega) (by omega))) (AH_take 11 rfl (by kernel_rfl) (by kernel_rfl) (by kernel_rfl) rfl rfl (by decide) (Pu_move rfl rfl) (AH_take 12 rfl (by kernel_rfl) (by kernel_rfl) (by kernel_rfl) rfl rfl (by decide) (Pu_idxS1 (r := 0) rfl Try.runUnderlying30 Try.sizeOf5 rfl rfl rfl hF (by omega)) (AH_take 13 rfl (by kernel_rfl) (by kernel_rfl) (by kernel_rfl) rfl rfl (by decide) (Pu_loadS (r := 0) rfl Try.isAgg5 rfl rfl hF (bs_at1 (k := 2) (by omega))) (AH_take 14 rfl (by kernel_rfl) (by kernel_rfl) (by kernel_rfl) rfl rfl (by decide) (Pu_conv rfl rfl (conv_u8 _ Try.runUnderlying5 Try.runUnderlying3)) (AH_take 15 rfl (by kernel_rfl) (by kernel_rfl) (by kernel_rfl) rfl rfl (by decide) (Pu_bin rfl rfl rfl (run_shl _ 8 _ _ _ (by have := (at0 l 2).toNat_lt; omega) (by omega))) (AH_take 16 rfl (by kernel_rfl) (by kernel_rfl) (by kernel_rfl) rfl rfl (by decide) (Pu_bin rfl rfl rfl (run_or _ _ 16 _ _ _ (by have := (at0 l 0).toNat_lt; have := (at0 l 1).toNat_lt; have := (at0 l 2).toNat_lt; have := (at0 l 3).toNat_lt; omega) (by have := (at0 l 0).toNat_lt; have := (at0 l 1).toNat_lt; have := (at0 l 2).toNat_lt; have := (at0 l 3).toNat_lt; omega) (by have := (at0 l 0).toNat_lt; have := (at0 l 1).toNat_lt; have := (at0 l 2).toNat_lt; have := (at0 l 3).toNat_lt; omega) (by omega))) (AH_take 17 rfl (by kernel_rfl) (by kernel_rfl) (by kernel_rfl) rfl rfl (by decide) (Pu_move rfl rfl) (AH_take 18 rfl (by kernel_rfl) (by kernel_rfl) (by kernel_rfl) rfl rfl (by decide) (Pu_idxS1 (r := 0) rfl Try.runUnderlying30 Try.sizeOf5 rfl rfl rfl hF (by omega)) (AH_take 19 rfl (by kernel_rfl) (by kernel_rfl) (by kernel_rfl) rfl rfl (by decide) (Pu_loadS (r := 0) rfl Try.isAgg5 rfl rfl hF (bs_at1 (k := 3) (by omega))) (AH_take 20 rfl (by kernel_rfl) (by kernel_rfl) (by kernel_rfl) rfl rfl (by decide) (Pu_conv rfl rfl (conv_u8 _ Try.runUnderlying5 Try.runUnderlying3)) (AH_take 21 rfl (by kernel_rfl) (by kernel_rfl) (by kernel_rfl) rfl rfl (by decide) (Pu_bin rfl rfl rfl (run_or _ _ 8 _ _ _ (by have := (at0 l 0).toNat_lt; have := (at0 l 1).toNat_lt; have := (at0 l 2).toNat_lt; have := (at0 l 3).toNat_lt; omega) (by have := (at0 l 0).toNat_lt; have := (at0 l 1).toNat_lt; have := (at0 l 2).toNat_lt; have := (at0 l 3).toNat_lt; omega) (by have := (at0 l 0).toNat_lt; have := (at0 l 1).toNat_lt; have := (at0 l 2).toNat_lt; have := (at0 l 3).toNat_lt; omega) (by omega))) (AH_take 22 rfl (by kernel_rfl) (by kernel_rfl) (by kernel_rfl) rfl rfl (by decide) (Pu_assign rfl rfl) (AH_done (by kernel_rfl) (X_then ?_)))))))))))))))))))))))))
  refine W_ret ?_
  exact X_ret [] (Ps := []) (res1 Try.results51 rfl) rfl (by decide) ⟨by rw [val_four], rfl⟩
theorem node6_spec (nm : List UInt8) (hn : nm.length = 16) (r : Int) (mark : UInt8) (bw : Value) (b : List UInt8) (hbl : b.length ≤ 1000000) (F : HP) (hb : ∀ h, F h → rdB bw b h) : CallsS Try.prog 53 #[idV nm, .int .i64 r, bv mark, bw] F [] (fun v Ps => v = idV (nodH nm r mark b) ∧ Ps = []) := by
  refine callsS_enter Try.func53 rfl Try.ntmps53 (by simp) (fun E => ?_)
  refine W_seq ?_
  refine W.pre (K' := [(0, _), (1, _), (2, _), (3, _)]) (L' := [(0, _)]) ?_ ⟨rfl, ⟨rfl, ⟨rfl, ⟨rfl, trivial⟩⟩⟩⟩ ⟨rfl, trivial⟩
  refine W_regL (WL_cons rfl rfl (by decide) (OpT_box (r := 101) rfl rfl rfl (fun g101 => (WL_cons rfl rfl (by decide) (OpT_alloc (r := 102) (cs := (bs zeroId)) rfl (zero_run (by kernel_rfl : (Try.prog.info? 29).bind (·.zero) = some (.agg (bs zeroId).toArray))) rfl (fun g102 => (WL_nil (X_then ?_))))))))
  refine W_seq ?_
  refine W.pre (K' := [(0, _), (1, _), (2, _), (3, _), (4, _), (8, _)]) (L' := [(0, _), (101, _), (102, _)]) ?_ ⟨rfl, ⟨rfl, ⟨rfl, ⟨rfl, ⟨rfl, ⟨rfl, trivial⟩⟩⟩⟩⟩⟩ ⟨rfl, ⟨rfl, ⟨rfl, trivial⟩⟩⟩
  refine W_regL (WL_cons rfl rfl (by decide) (OpT_buildOnes (r := 103) (bs []) rfl rfl Try.runUnderlying30 Try.sizeOf5 Try.zeroValue5 rfl rfl (by decide) rfl (bs_cells _) (fun v10 => (WL_pure rfl rfl (by decide) (Pu_sliceArr rfl Try.runUnderlying52 Try.sizeOf5 rfl) (WL_cons rfl rfl (by decide) (OpT_append (r := 103) (r2 := 101) rfl Try.underlying30 TI.hi5 TI.hz5 TI.hs5 TI.hby5 TI.hzs5 (by decide) rfl rfl rfl rfl (fun _ h => blk_all h hn) (bs_one _) (by unfold maxLen; omega) (by omega) (fun v12 => ?_)))))))
  refine WL_turn (P' := rowB 5 v12 (nm)) 103 rfl (fun h hp => rowB_mk hp (by simp [hn]) (by simp [bs])) ?_
  refine (WL_pure rfl rfl (by decide) (Pu_move rfl rfl) (WL_cons rfl rfl (by decide) (OpT_call 200 [0, 101, 102] [103] rfl Try.call37 rfl rfl rfl (by decide) (by decide) (four6_spec _ rfl _ nm r (by omega) _) (fun v14 Ps14 hR14 => ?_))))
  subst hR14
  refine WL_turn (P' := rowB 5 v14 (hdL nm r)) 200 rfl (fun h hp => hp) ?_
  refine (WL_pure rfl rfl (by decide) (Pu_move rfl rfl) (WL_pure rfl rfl (by decide) (Pu_move rfl rfl) (WL_cons rfl rfl (by decide) (OpT_buildOnes (r := 201) (bs [mark, mark]) rfl rfl Try.runUnderlying30 Try.sizeOf5 Try.zeroValue5 rfl rfl (by decide) rfl (bs_cells _) (fun v17 => (WL_cons rfl rfl (by decide) (OpT_append (r := 200) (r2 := 201) rfl Try.underlying30 TI.hi5 TI.hz5 TI.hs5 TI.hby5 TI.hzs5 (by decide) rfl rfl rfl rfl (fun _ h => rowP_rd h) (bs_one _) (by unfold maxLen; simp [hdL_length hn, numB_length, *] <;> omega) (by simp [hdL_length hn, numB_length, *] <;> omega) (fun v18 => ?_))))))))
  refine WL_turn (P' := rowB 5 v18 (hdL nm r ++ [mark, mark])) 200 rfl (fun h hp => rowB_mk hp (by simp [hdL_length hn, numB_length, *] <;> omega) (by simp only [bs_append])) ?_
  refine (WL_pure rfl rfl (by decide) (Pu_assign rfl rfl) (WL_nil (X_then ?_)))
  refine W_seq ?_
  refine W.pre (K' := [(0, _), (1, _), (2, _), (3, _), (4, _), (8, _), (9, _)]) (L' := [(0, _), (101, _), (102, _), (200, _), (201, _)]) ?_ ⟨rfl, ⟨rfl, ⟨rfl, ⟨rfl, ⟨rfl, ⟨rfl, ⟨rfl, trivial⟩⟩⟩⟩⟩⟩⟩ ⟨rfl, ⟨rfl, ⟨rfl, ⟨rfl, ⟨rfl, trivial⟩⟩⟩⟩⟩
  refine W_regL (WL_pure rfl rfl (by decide) (Pu_move rfl rfl) (WL_pure rfl rfl (by decide) (Pu_move rfl rfl) (WL_cons rfl rfl (by decide) (OpT_append (r := 200) (r2 := 0) rfl Try.underlying30 TI.hi5 TI.hz5 TI.hs5 TI.hby5 TI.hzs5 (by decide) rfl rfl rfl rfl hb (bs_one _) (by unfold maxLen; simp [hdL_length hn, numB_length, *] <;> omega) (by simp [hdL_length hn, numB_length, *] <;> omega) (fun v21 => ?_)))))
  refine WL_turn (P' := rowB 5 v21 (hdL nm r ++ [mark, mark] ++ b)) 200 rfl (fun h hp => rowB_mk hp (by simp [hdL_length hn, numB_length, *] <;> omega) (by simp only [bs_append])) ?_
  refine (WL_cons rfl rfl (by decide) (OpT_call 300 [0, 101, 102, 200, 201] [] rfl Try.call14 rfl rfl rfl (by decide) (by decide) (refSum_spec v21 (hdL nm r ++ [mark, mark] ++ b) (by simp [hdL_length hn] <;> omega) _ (rd_star 3 rfl rowB_rd)) (fun v22 Ps22 hR22 => ?_)))
  obtain ⟨rfl, rfl⟩ := hR22
  refine (WL_cons0 rfl rfl (OpT_storeAll (r := 102) rfl Try.sizeOf29 rfl rfl rfl rfl ((bs_length _).trans (sha_length _)) (bs_one _) ?_))
  refine (WL_nil (X_then ?_))
  refine W_ret ?_
  exact X_ret [] (Ps := []) (resC1 (r := 102) Try.results53 rfl Try.isAgg29 Try.sizeOf29 rfl ((bs_length _).trans (sha_length _))) rfl (by decide) ⟨rfl, rfl⟩
end Go.Proofs.Ytinamipkpdlphaa
