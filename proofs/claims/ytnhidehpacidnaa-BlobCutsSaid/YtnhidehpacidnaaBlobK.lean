/- Blocks: the law of sizes. -/
import Derived.Test.YtnhidehpacidnaaBlobJ
import Derived.Test.YtnhidehpacidnaaSl7
import Derived.Test.YtnhidehpacidnaaBlob4
namespace Go.Proofs.Ytnhidehpacidnaa
open Go.RowKit
set_option linter.unusedVariables false

theorem known_spec (F : HP) : CallsS Try.prog 7 #[] F [] (fun v Ps => v = .bool true ∧ Ps = []) := by
  refine callsS_enter Try.func7 rfl Try.ntmps7 (by simp) (fun E => ?_)
  refine W_seq ?_
  refine W_regL (WL_pure rfl rfl (by decide) (Pu_assign rfl rfl) (WL_nil (X_then ?_)))
  refine W_seq ?_
  refine W.pre (K' := [(0, _)]) (L' := [(0, _)]) ?_ ⟨rfl, trivial⟩ ⟨rfl, trivial⟩
  refine W_regL (WL_cons rfl rfl (by decide) (OpT_call 200 [0] [] rfl Try.call10 rfl rfl rfl (by decide) (by decide) (inner_spec (.slice none 0 0) [] (fun x hx => by simp at hx) _ (fun h _ => rd_const 0 32 h)) (fun v6 Ps6 hR6 => ?_)))
  obtain ⟨v', rfl, rfl⟩ := hR6
  refine (WL_pure rfl rfl (by decide) (Pu_move rfl rfl) (WL_pure rfl rfl (by decide) (Pu_extract rfl rfl rfl) (WL_pure rfl rfl (by decide) (Pu_extract rfl rfl rfl) (WL_pure rfl rfl (by decide) (Pu_assign rfl rfl) (WL_pure rfl rfl (by decide) (Pu_assign rfl rfl) (WL_nil (X_then ?_)))))))
  refine W_seq ?_
  refine W.pre (K' := [(0, _), (2, _)]) (L' := [(0, _), (200, _)]) ?_ ⟨rfl, ⟨rfl, trivial⟩⟩ ⟨rfl, ⟨rfl, trivial⟩⟩
  refine W_regL (WL_pure rfl rfl (by decide) (Pu_build (V := nodeV 1 0 0 zeroId) [(0, 1), (1, 1), (2, 1), (3, 32)] (nodeC 0 0 0 zeroId) rfl rfl (by kernel_rfl) (by kernel_rfl) (.one rfl rfl (by simp [nodeC, bs_length, zeroId_length]) rfl (.nil _)) rfl) (WL_cons rfl rfl (by decide) (OpT_call 300 [0, 200] [] rfl Try.call9 rfl rfl rfl (by decide) (by decide) (inode_spec 1 0 0 zeroId zeroId_length _) (fun v11 Ps11 hR11 => ?_))))
  obtain ⟨v2, rfl, rfl⟩ := hR11
  refine (WL_pure rfl rfl (by decide) (Pu_move rfl rfl) (WL_pure rfl rfl (by decide) (Pu_extract rfl rfl rfl) (WL_pure rfl rfl (by decide) (Pu_extract rfl rfl rfl) (WL_pure rfl rfl (by decide) (Pu_assign rfl rfl) (WL_pure rfl rfl (by decide) (Pu_assign rfl rfl) (WL_nil (X_then ?_)))))))
  refine W_seq ?_
  refine W.pre (K' := [(0, _), (2, _), (3, _), (4, _)]) (L' := [(0, _), (200, _), (300, _)]) ?_ ⟨rfl, ⟨rfl, ⟨rfl, ⟨rfl, trivial⟩⟩⟩⟩ ⟨rfl, ⟨rfl, ⟨rfl, trivial⟩⟩⟩
  refine W_regL (WL_pure rfl rfl (by decide) (Pu_move rfl rfl) (WL_pure rfl rfl (by decide) (Pu_bin rfl rfl rfl (run_eql _ _ _ _ _ _)) (WL_pure rfl rfl (by decide) (Pu_move rfl rfl) (WL_guardP rfl rfl rfl rfl (by decide) (fun hb => (Pu_move rfl rfl)) (WL_guardP rfl rfl rfl rfl (by decide) (fun hb => (Pu_bin rfl (ev_gv rfl hb) rfl (run_eql _ _ _ _ _ _))) (WL_pure rfl rfl (by decide) (Pu_and rfl rfl rfl) (WL_pure rfl rfl (by decide) (Pu_move rfl rfl) (WL_guardP rfl rfl rfl rfl (by decide) (fun hb => (Pu_move rfl rfl)) (WL_guardP rfl rfl rfl rfl (by decide) (fun hb => (Pu_len (r := 300) rfl Try.runUnderlying28 (ev_gv rfl hb) rfl rowB_rd)) (WL_guardP rfl rfl rfl rfl (by decide) (fun hb => (Pu_bin rfl (ev_gv rfl hb) rfl (run_eql _ _ _ _ _ _))) (WL_pure rfl rfl (by decide) (Pu_and rfl rfl rfl) (WL_pure rfl rfl (by decide) (Pu_move rfl rfl) (WL_guardP rfl rfl rfl rfl (by decide) (fun hb => (Pu_move rfl rfl)) (WL_guardP rfl rfl rfl rfl (by decide) (fun hb => (Pu_idxS1 (r := 300) rfl Try.runUnderlying28 Try.sizeOf5 (ev_gv rfl hb) rfl rfl rowB_rd (by rw [known_len]; omega))) (WL_guardP rfl rfl rfl rfl (by decide) (fun hb => (Pu_loadS (r := 300) rfl Try.isAgg5 (ev_gv rfl hb) rfl rowB_rd (bs_at1 (k := 0) (by rw [known_len]; omega)))) (WL_guardP rfl rfl rfl rfl (by decide) (fun hb => (Pu_bin rfl (ev_gv rfl hb) rfl (run_eql _ _ _ _ _ _))) (WL_pure rfl rfl (by decide) (Pu_and rfl rfl rfl) (WL_pure rfl rfl (by decide) (Pu_assign rfl rfl) (WL_nil (X_then ?_))))))))))))))))))))
  refine W_ret ?_
  exact X_ret [] (Ps := []) (res1 Try.results7 rfl) rfl (by decide) ⟨bool_val (by rw [known_node, known_len, known_at]; rfl), rfl⟩
theorem blobSizes_law (size0 levels0 : Int) (dir : Bool) (F : HP) : CallsS Try.prog 3 #[.int .i64 size0, .int .i64 levels0, .bool dir] F [] (fun v Ps => v = .bool true) := by
  refine callsS_enter Try.func3 rfl Try.ntmps3 (by simp) (fun E => ?_)
  refine W_seq ?_
  refine W.pre (K' := [(0, _), (1, _), (2, _)]) (L' := [(0, _)]) ?_ ⟨rfl, ⟨rfl, ⟨rfl, trivial⟩⟩⟩ ⟨rfl, trivial⟩
  refine W_regL (WL_pure rfl rfl (by decide) (Pu_assign rfl rfl) (WL_nil (X_then ?_)))
  refine W_seq ?_
  refine W_seq ?_
  refine W.pre (K' := [(0, _), (1, _), (2, _), (6, _)]) (L' := [(0, _)]) ?_ ⟨rfl, ⟨rfl, ⟨rfl, ⟨rfl, trivial⟩⟩⟩⟩ ⟨rfl, trivial⟩
  refine W_regL (WL_cons rfl rfl (by decide) (OpT_call 200 [0] [] rfl Try.call7 rfl rfl rfl (by decide) (by decide) (known_spec _) (fun v12 Ps12 hR12 => ?_)))
  obtain ⟨rfl, rfl⟩ := hR12
  refine (WL_pure rfl rfl (by decide) (Pu_un rfl rfl (run_not _)) (WL_nil (X_then ?_)))
  refine W_false rfl (rfl) ?_
  refine W_skip (X_then ?_)
  refine W_seq ?_
  refine W.pre (K' := [(0, _), (1, _), (2, _), (6, _), (13, _)]) (L' := [(0, _)]) ?_ ⟨rfl, ⟨rfl, ⟨rfl, ⟨rfl, ⟨rfl, trivial⟩⟩⟩⟩⟩ ⟨rfl, trivial⟩
  refine W_regL (WL_pure rfl rfl (by decide) (Pu_move rfl rfl) (WL_cons rfl rfl (by decide) (OpT_call 300 [0] [] rfl Try.call8 rfl rfl rfl (by decide) (by decide) (within_spec size0 1048578 (by omega) (by omega) _) (fun v15 Ps15 hR15 => ?_))))
  obtain ⟨rfl, rfl⟩ := hR15
  refine (WL_pure rfl rfl (by decide) (Pu_assign rfl rfl) (WL_nil (X_then ?_)))
  refine W_seq ?_
  refine W.pre (K' := [(0, _), (1, _), (2, _), (6, _), (13, _)]) (L' := [(0, _)]) ?_ ⟨rfl, ⟨rfl, ⟨rfl, ⟨rfl, ⟨rfl, trivial⟩⟩⟩⟩⟩ ⟨rfl, trivial⟩
  refine W_regL (WL_pure rfl rfl (by decide) (Pu_move rfl rfl) (WL_cons rfl rfl (by decide) (OpT_call 400 [0] [] rfl Try.call8 rfl rfl rfl (by decide) (by decide) (within_spec levels0 9 (by omega) (by omega) _) (fun v17 Ps17 hR17 => ?_))))
  obtain ⟨rfl, rfl⟩ := hR17
  refine (WL_pure rfl rfl (by decide) (Pu_assign rfl rfl) (WL_nil (X_then ?_)))
  refine W_seq ?_
  refine W.pre (K' := [(0, _), (1, _), (2, _), (6, _), (13, _)]) (L' := [(0, _)]) ?_ ⟨rfl, ⟨rfl, ⟨rfl, ⟨rfl, ⟨rfl, trivial⟩⟩⟩⟩⟩ ⟨rfl, trivial⟩
  refine W_regL (WL_pure rfl rfl (by decide) (Pu_move rfl rfl) (WL_pure rfl rfl (by decide) (Pu_move rfl rfl) (WL_pure rfl rfl (by decide) (Pu_build (V := nodeV 1 (size0 % 1048578) (levels0 % 9) zeroId) [(0, 1), (1, 1), (2, 1), (3, 32)] (nodeC 0 0 0 zeroId) rfl rfl (by kernel_rfl) (by kernel_rfl) (.one rfl rfl (by simp [nodeC, bs_length, zeroId_length]) rfl (.one rfl rfl (by simp [nodeC, bs_length, zeroId_length]) rfl (.one rfl rfl (by simp [nodeC, bs_length, zeroId_length]) rfl (.nil _)))) rfl) (WL_cons rfl rfl (by decide) (OpT_alloc (r := 401) rfl (zero_run (by kernel_rfl : (Try.prog.info? 27).bind (·.zero) = some (.agg (nodeC 0 0 0 zeroId).toArray))) rfl (fun g401 => (WL_cons0 rfl rfl (OpT_storeAll (r := 401) rfl Try.sizeOf27 rfl rfl rfl rfl (nodeC_length zeroId_length) (one_node _ _ _ _) ?_))))))))
  refine (WL_nil (X_then ?_))
  refine W_seq ?_
  refine W_seq ?_
  refine W.pre (K' := [(0, _), (1, _), (2, _), (6, _), (7, _), (13, _)]) (L' := [(0, _), (401, _)]) ?_ ⟨rfl, ⟨rfl, ⟨rfl, ⟨rfl, ⟨rfl, ⟨rfl, trivial⟩⟩⟩⟩⟩⟩ ⟨rfl, ⟨rfl, trivial⟩⟩
  refine W_regL (WL_pure rfl rfl (by decide) (Pu_move rfl rfl) (WL_nil (X_then ?_)))
  refine W_cond rfl (fun hc21 => ?_) (fun hc21 => ?_)
  ·
    refine W.pre (K' := [(0, _), (1, _), (2, _), (6, _), (7, _), (13, _), (21, _)]) (L' := [(0, _), (401, _)]) ?_ ⟨rfl, ⟨rfl, ⟨rfl, ⟨rfl, ⟨rfl, ⟨rfl, ⟨rfl, trivial⟩⟩⟩⟩⟩⟩⟩ ⟨rfl, ⟨rfl, trivial⟩⟩
    refine W_regL (WL_pure rfl rfl (by decide) (Pu_fieldAddrB (off := 0) rfl rfl (by kernel_rfl)) (WL_cons0 rfl rfl (OpT_storeB1 (r := 401) rfl Try.sizeOf3 rfl rfl rfl rfl (by rw [nodeC_length zeroId_length]; decide) (rfl : _ = nodeC 2 (size0 % 1048578) (levels0 % 9) zeroId) ?_)))
    refine (WL_nil (X_then ?_))
    refine W_seq ?_
    refine W.pre (K' := [(0, _), (1, _), (2, _), (6, _), (7, _), (13, _), (21, _)]) (L' := [(0, _), (401, _)]) ?_ ⟨rfl, ⟨rfl, ⟨rfl, ⟨rfl, ⟨rfl, ⟨rfl, ⟨rfl, trivial⟩⟩⟩⟩⟩⟩⟩ ⟨rfl, ⟨rfl, trivial⟩⟩
    refine W_regL (WL_pure rfl rfl (by decide) (Pu_assign rfl rfl) (WL_pure rfl rfl (by decide) (Pu_assign rfl rfl) (WL_nil (X_then ?_))))
    refine W_seq ?_
    refine W_block ?_
    have hs0 := Int.emod_nonneg size0 (show (1048578 : Int) ≠ 0 by decide)
    have hs1 := Int.emod_lt_of_pos size0 (show (0 : Int) < 1048578 by decide)
    refine W_loop (α := Nat) (fun n => [(0, .int .i64 (size0 % 1048578)), (1, .int .i64 (levels0 % 9)), (7, .pointer (some ⟨g401, 0, none⟩)), (8, .int .i64 (all8 n)), (9, .int .i64 (n : Int))]) (fun n => [(0, F), (401, blk g401 27 (nodeC 2 (size0 % 1048578) (levels0 % 9) zeroId))]) (fun n => n ≤ 7 ∧ (n = 0 ∨ all8 (n - 1) < size0 % 1048578)) (fun n => 7 - n) (0) ⟨by omega, .inl rfl⟩ ⟨rfl, ⟨rfl, ⟨rfl, ⟨rfl, ⟨rfl, trivial⟩⟩⟩⟩⟩ ⟨rfl, ⟨rfl, trivial⟩⟩ (fun x hx => ?_)
    obtain ⟨h7, hlo⟩ := hx
    have hb := all8_le h7
    have h0 := all8_pos x
    refine W_seq ?_
    refine W_seq ?_
    refine W.pre (K' := [(0, _), (1, _), (7, _), (8, _), (9, _)]) (L' := [(0, _), (401, _)]) ?_ ⟨rfl, ⟨rfl, ⟨rfl, ⟨rfl, ⟨rfl, trivial⟩⟩⟩⟩⟩ ⟨rfl, ⟨rfl, trivial⟩⟩
    refine W_regL (WL_pure rfl rfl (by decide) (Pu_move rfl rfl) (WL_pure rfl rfl (by decide) (Pu_move rfl rfl) (WL_pure rfl rfl (by decide) (Pu_bin rfl rfl rfl (run_lss _ _ _ _ _ _)) (WL_nil (X_then ?_)))))
    refine W_cond rfl (fun hc25 => ?_) (fun hc25 => ?_)
    ·
      have hx6 : x + 1 ≤ 7 := by
        have hlt := of_decide_eq_true hc25
        rcases Nat.lt_or_ge x 7 with h | h
        · omega
        · obtain rfl : x = 7 := by omega
          have : all8 7 = 134217728 := rfl
          omega
      refine W_skip (X_then ?_)
      refine W_block ?_
      refine W_seq ?_
      refine W.pre (K' := [(0, _), (1, _), (7, _), (8, _), (9, _), (25, _)]) (L' := [(0, _), (401, _)]) ?_ ⟨rfl, ⟨rfl, ⟨rfl, ⟨rfl, ⟨rfl, ⟨rfl, trivial⟩⟩⟩⟩⟩⟩ ⟨rfl, ⟨rfl, trivial⟩⟩
      refine W_regL (WL_pure rfl rfl (by decide) (Pu_move rfl rfl) (WL_pure rfl rfl (by decide) (Pu_bin rfl rfl rfl (run_mul _ _ _ _ _ (by omega))) (WL_pure rfl rfl (by decide) (Pu_assign rfl rfl) (WL_nil (X_then ?_)))))
      refine W.pre (K' := [(0, _), (1, _), (7, _), (8, _), (9, _), (25, _)]) (L' := [(0, _), (401, _)]) ?_ ⟨rfl, ⟨rfl, ⟨rfl, ⟨rfl, ⟨rfl, ⟨rfl, trivial⟩⟩⟩⟩⟩⟩ ⟨rfl, ⟨rfl, trivial⟩⟩
      refine W_regL (WL_pure rfl rfl (by decide) (Pu_move rfl rfl) (WL_pure rfl rfl (by decide) (Pu_bin rfl rfl rfl (run_add _ _ _ _ _ (by omega))) (WL_pure rfl rfl (by decide) (Pu_assign rfl rfl) (WL_nil (X_block ?_)))))
      rw [all8_succ]
      exact X_round (x + 1) ⟨hx6, .inr (by simpa using of_decide_eq_true hc25)⟩ (by omega) ⟨rfl, rfl, rfl, rfl, rfl, trivial⟩ ⟨rfl, rfl, trivial⟩
    ·
      have hge := of_decide_eq_false hc25
      refine W_exit (X_then_exit (X_then_exit (X_block_exit (X_then ?_))))
      refine W_seq ?_
      refine W.pre (K' := [(0, _), (1, _), (7, _), (8, _), (9, _), (25, _)]) (L' := [(0, _), (401, _)]) ?_ ⟨rfl, ⟨rfl, ⟨rfl, ⟨rfl, ⟨rfl, ⟨rfl, trivial⟩⟩⟩⟩⟩⟩ ⟨rfl, ⟨rfl, trivial⟩⟩
      refine W_regL (WL_pure rfl rfl (by decide) (Pu_loadBN (r := 401) rfl Try.isAgg27 Try.sizeOf27 rfl rfl (nodeC_length zeroId_length) (load_all (nodeC_length zeroId_length))) (WL_cons rfl rfl (by decide) (OpT_call 500 [0, 401] [] rfl Try.call9 rfl rfl rfl (by decide) (by decide) (inode_spec _ _ _ zeroId zeroId_length _) (fun v32 Ps32 hR32 => ?_))))
      obtain ⟨v2, rfl, rfl⟩ := hR32
      refine (WL_pure rfl rfl (by decide) (Pu_move rfl rfl) (WL_pure rfl rfl (by decide) (Pu_extract rfl rfl rfl) (WL_pure rfl rfl (by decide) (Pu_extract rfl rfl rfl) (WL_pure rfl rfl (by decide) (Pu_assign rfl rfl) (WL_pure rfl rfl (by decide) (Pu_assign rfl rfl) (WL_nil (X_then ?_)))))))
      refine W_seq ?_
      refine W.pre (K' := [(0, _), (1, _), (7, _), (8, _), (9, _), (11, _), (25, _)]) (L' := [(0, _), (401, _), (500, _)]) ?_ ⟨rfl, ⟨rfl, ⟨rfl, ⟨rfl, ⟨rfl, ⟨rfl, ⟨rfl, trivial⟩⟩⟩⟩⟩⟩⟩ ⟨rfl, ⟨rfl, ⟨rfl, trivial⟩⟩⟩
      refine W_regL (WL_pure rfl rfl (by decide) (Pu_move rfl rfl) (WL_pure rfl rfl (by decide) (Pu_bin rfl rfl rfl (run_eql _ _ _ _ _ _)) (WL_pure rfl rfl (by decide) (Pu_move rfl rfl) (WL_pure rfl rfl (by decide) (Pu_bin rfl rfl rfl (run_leq _ _ _ _ _ _)) (WL_pure rfl rfl (by decide) (Pu_move rfl rfl) (WL_guardP rfl rfl rfl rfl (by decide) (fun hb => (Pu_move rfl rfl)) (WL_guardP rfl rfl rfl rfl (by decide) (fun hb => (Pu_move rfl rfl)) (WL_guardP rfl rfl rfl rfl (by decide) (fun hb => (Pu_bin rfl (ev_gv rfl hb) (ev_gv rfl hb) (run_eql _ _ _ _ _ _))) (WL_pure rfl rfl (by decide) (Pu_and rfl rfl rfl) (WL_pure rfl rfl (by decide) (Pu_bin rfl rfl rfl (run_eqb _ _ _ Try.underlying4 _ _)) (WL_pure rfl rfl (by decide) (Pu_move rfl rfl) (WL_guardP rfl rfl rfl rfl (by decide) (fun hb => (Pu_move rfl rfl)) (WL_guardP rfl rfl rfl rfl (by decide) (fun hb => (Pu_bin rfl (ev_gv rfl hb) rfl (run_eql _ _ _ _ _ _))) (WL_guardP rfl rfl rfl rfl (by decide) (fun hb => (Pu_move rfl (ev_gv rfl hb))) (WL_guardP2 rfl rfl rfl rfl (by decide) (fun hb => (Pu_move rfl rfl)) (WL_guardP2 rfl rfl rfl rfl (by decide) (fun hb => (Pu_bin rfl (ev_gv rfl hb) rfl (run_eql _ _ _ _ _ _))) (WL_guardP rfl rfl rfl rfl (by decide) (fun hb => (Pu_or2 hb rfl (ev_gv rfl hb) rfl)) (WL_pure rfl rfl (by decide) (Pu_and rfl rfl rfl) (WL_pure rfl rfl (by decide) (Pu_assign rfl rfl) (WL_nil (X_then ?_)))))))))))))))))))))
      refine W_ret ?_
      exact X_ret [] (Ps := []) (res1 Try.results3 rfl) rfl (by decide) (bool_val (sizes_end (by first | exact .inl rfl | exact .inr rfl) hs0 hs1 (lev_of h7 hlo (by simp; omega)).symm))
  ·
    refine W_skip (X_then ?_)
    refine W_seq ?_
    refine W.pre (K' := [(0, _), (1, _), (2, _), (6, _), (7, _), (13, _), (21, _)]) (L' := [(0, _), (401, _)]) ?_ ⟨rfl, ⟨rfl, ⟨rfl, ⟨rfl, ⟨rfl, ⟨rfl, ⟨rfl, trivial⟩⟩⟩⟩⟩⟩⟩ ⟨rfl, ⟨rfl, trivial⟩⟩
    refine W_regL (WL_pure rfl rfl (by decide) (Pu_assign rfl rfl) (WL_pure rfl rfl (by decide) (Pu_assign rfl rfl) (WL_nil (X_then ?_))))
    refine W_seq ?_
    refine W_block ?_
    have hs0 := Int.emod_nonneg size0 (show (1048578 : Int) ≠ 0 by decide)
    have hs1 := Int.emod_lt_of_pos size0 (show (0 : Int) < 1048578 by decide)
    refine W_loop (α := Nat) (fun n => [(0, .int .i64 (size0 % 1048578)), (1, .int .i64 (levels0 % 9)), (7, .pointer (some ⟨g401, 0, none⟩)), (8, .int .i64 (all8 n)), (9, .int .i64 (n : Int))]) (fun n => [(0, F), (401, blk g401 27 (nodeC 1 (size0 % 1048578) (levels0 % 9) zeroId))]) (fun n => n ≤ 7 ∧ (n = 0 ∨ all8 (n - 1) < size0 % 1048578)) (fun n => 7 - n) (0) ⟨by omega, .inl rfl⟩ ⟨rfl, ⟨rfl, ⟨rfl, ⟨rfl, ⟨rfl, trivial⟩⟩⟩⟩⟩ ⟨rfl, ⟨rfl, trivial⟩⟩ (fun x hx => ?_)
    obtain ⟨h7, hlo⟩ := hx
    have hb := all8_le h7
    have h0 := all8_pos x
    refine W_seq ?_
    refine W_seq ?_
    refine W.pre (K' := [(0, _), (1, _), (7, _), (8, _), (9, _)]) (L' := [(0, _), (401, _)]) ?_ ⟨rfl, ⟨rfl, ⟨rfl, ⟨rfl, ⟨rfl, trivial⟩⟩⟩⟩⟩ ⟨rfl, ⟨rfl, trivial⟩⟩
    refine W_regL (WL_pure rfl rfl (by decide) (Pu_move rfl rfl) (WL_pure rfl rfl (by decide) (Pu_move rfl rfl) (WL_pure rfl rfl (by decide) (Pu_bin rfl rfl rfl (run_lss _ _ _ _ _ _)) (WL_nil (X_then ?_)))))
    refine W_cond rfl (fun hc25 => ?_) (fun hc25 => ?_)
    ·
      have hx6 : x + 1 ≤ 7 := by
        have hlt := of_decide_eq_true hc25
        rcases Nat.lt_or_ge x 7 with h | h
        · omega
        · obtain rfl : x = 7 := by omega
          have : all8 7 = 134217728 := rfl
          omega
      refine W_skip (X_then ?_)
      refine W_block ?_
      refine W_seq ?_
      refine W.pre (K' := [(0, _), (1, _), (7, _), (8, _), (9, _), (25, _)]) (L' := [(0, _), (401, _)]) ?_ ⟨rfl, ⟨rfl, ⟨rfl, ⟨rfl, ⟨rfl, ⟨rfl, trivial⟩⟩⟩⟩⟩⟩ ⟨rfl, ⟨rfl, trivial⟩⟩
      refine W_regL (WL_pure rfl rfl (by decide) (Pu_move rfl rfl) (WL_pure rfl rfl (by decide) (Pu_bin rfl rfl rfl (run_mul _ _ _ _ _ (by omega))) (WL_pure rfl rfl (by decide) (Pu_assign rfl rfl) (WL_nil (X_then ?_)))))
      refine W.pre (K' := [(0, _), (1, _), (7, _), (8, _), (9, _), (25, _)]) (L' := [(0, _), (401, _)]) ?_ ⟨rfl, ⟨rfl, ⟨rfl, ⟨rfl, ⟨rfl, ⟨rfl, trivial⟩⟩⟩⟩⟩⟩ ⟨rfl, ⟨rfl, trivial⟩⟩
      refine W_regL (WL_pure rfl rfl (by decide) (Pu_move rfl rfl) (WL_pure rfl rfl (by decide) (Pu_bin rfl rfl rfl (run_add _ _ _ _ _ (by omega))) (WL_pure rfl rfl (by decide) (Pu_assign rfl rfl) (WL_nil (X_block ?_)))))
      rw [all8_succ]
      exact X_round (x + 1) ⟨hx6, .inr (by simpa using of_decide_eq_true hc25)⟩ (by omega) ⟨rfl, rfl, rfl, rfl, rfl, trivial⟩ ⟨rfl, rfl, trivial⟩
    ·
      have hge := of_decide_eq_false hc25
      refine W_exit (X_then_exit (X_then_exit (X_block_exit (X_then ?_))))
      refine W_seq ?_
      refine W.pre (K' := [(0, _), (1, _), (7, _), (8, _), (9, _), (25, _)]) (L' := [(0, _), (401, _)]) ?_ ⟨rfl, ⟨rfl, ⟨rfl, ⟨rfl, ⟨rfl, ⟨rfl, trivial⟩⟩⟩⟩⟩⟩ ⟨rfl, ⟨rfl, trivial⟩⟩
      refine W_regL (WL_pure rfl rfl (by decide) (Pu_loadBN (r := 401) rfl Try.isAgg27 Try.sizeOf27 rfl rfl (nodeC_length zeroId_length) (load_all (nodeC_length zeroId_length))) (WL_cons rfl rfl (by decide) (OpT_call 500 [0, 401] [] rfl Try.call9 rfl rfl rfl (by decide) (by decide) (inode_spec _ _ _ zeroId zeroId_length _) (fun v32 Ps32 hR32 => ?_))))
      obtain ⟨v2, rfl, rfl⟩ := hR32
      refine (WL_pure rfl rfl (by decide) (Pu_move rfl rfl) (WL_pure rfl rfl (by decide) (Pu_extract rfl rfl rfl) (WL_pure rfl rfl (by decide) (Pu_extract rfl rfl rfl) (WL_pure rfl rfl (by decide) (Pu_assign rfl rfl) (WL_pure rfl rfl (by decide) (Pu_assign rfl rfl) (WL_nil (X_then ?_)))))))
      refine W_seq ?_
      refine W.pre (K' := [(0, _), (1, _), (7, _), (8, _), (9, _), (11, _), (25, _)]) (L' := [(0, _), (401, _), (500, _)]) ?_ ⟨rfl, ⟨rfl, ⟨rfl, ⟨rfl, ⟨rfl, ⟨rfl, ⟨rfl, trivial⟩⟩⟩⟩⟩⟩⟩ ⟨rfl, ⟨rfl, ⟨rfl, trivial⟩⟩⟩
      refine W_regL (WL_pure rfl rfl (by decide) (Pu_move rfl rfl) (WL_pure rfl rfl (by decide) (Pu_bin rfl rfl rfl (run_eql _ _ _ _ _ _)) (WL_pure rfl rfl (by decide) (Pu_move rfl rfl) (WL_pure rfl rfl (by decide) (Pu_bin rfl rfl rfl (run_leq _ _ _ _ _ _)) (WL_pure rfl rfl (by decide) (Pu_move rfl rfl) (WL_guardP rfl rfl rfl rfl (by decide) (fun hb => (Pu_move rfl rfl)) (WL_guardP rfl rfl rfl rfl (by decide) (fun hb => (Pu_move rfl rfl)) (WL_guardP rfl rfl rfl rfl (by decide) (fun hb => (Pu_bin rfl (ev_gv rfl hb) (ev_gv rfl hb) (run_eql _ _ _ _ _ _))) (WL_pure rfl rfl (by decide) (Pu_and rfl rfl rfl) (WL_pure rfl rfl (by decide) (Pu_bin rfl rfl rfl (run_eqb _ _ _ Try.underlying4 _ _)) (WL_pure rfl rfl (by decide) (Pu_move rfl rfl) (WL_guardP rfl rfl rfl rfl (by decide) (fun hb => (Pu_move rfl rfl)) (WL_guardP rfl rfl rfl rfl (by decide) (fun hb => (Pu_bin rfl (ev_gv rfl hb) rfl (run_eql _ _ _ _ _ _))) (WL_guardP rfl rfl rfl rfl (by decide) (fun hb => (Pu_move rfl (ev_gv rfl hb))) (WL_guardP2 rfl rfl rfl rfl (by decide) (fun hb => (Pu_move rfl rfl)) (WL_guardP2 rfl rfl rfl rfl (by decide) (fun hb => (Pu_bin rfl (ev_gv rfl hb) rfl (run_eql _ _ _ _ _ _))) (WL_guardP rfl rfl rfl rfl (by decide) (fun hb => (Pu_or2 hb rfl (ev_gv rfl hb) rfl)) (WL_pure rfl rfl (by decide) (Pu_and rfl rfl rfl) (WL_pure rfl rfl (by decide) (Pu_assign rfl rfl) (WL_nil (X_then ?_)))))))))))))))))))))
      refine W_ret ?_
      exact X_ret [] (Ps := []) (res1 Try.results3 rfl) rfl (by decide) (bool_val (sizes_end (by first | exact .inl rfl | exact .inr rfl) hs0 hs1 (lev_of h7 hlo (by simp; omega)).symm))

theorem blobSizes_any (W : World) (a0 : Int) (lo0 : -9223372036854775808 ≤ a0) (hi0 : a0 ≤ 9223372036854775807) (a1 : Int) (lo1 : -9223372036854775808 ≤ a1) (hi1 : a1 ≤ 9223372036854775807) (a2 : Bool) :
    Calls Try.prog 3 #[.int .i64 a0, .int .i64 a1, .bool a2] W fun e W' => e = .returned (.bool true) ∧ Chg [] W W' := calls_law (blobSizes_law a0 a1 a2 _)
end Go.Proofs.Ytnhidehpacidnaa
