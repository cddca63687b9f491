/- Blocks: what is wrong with an inode; inodes written. -/
import Derived.Test.YtnhidehpacidnaaBlobB
import Derived.Stop.BytesEq
namespace Go.Proofs.Ytnhidehpacidnaa
open Go.RowKit
set_option linter.unusedVariables false

/-- Ids compared. -/
theorem run_idEq (xs ys : List UInt8) (hx : xs.length = 32) (hy : ys.length = 32) (x y : Operand) (w : World) : ((do eqGuard .eql 25 x y (.agg (bs xs).toArray) (.agg (bs ys).toArray); binOp .eql 25 (.agg (bs xs).toArray) (.agg (bs ys).toArray) : Sem Value)).run Try.prog w = .ok (.bool (xs == ys)) w := by
  have h := run_equalIn_bytes w 9998 25 5 32 Try.underlying25 Try.underlying5 (fun w => by kernel_rfl) xs ys hx hy
  have hg : Try.prog.eqGuardType Try.prog.depth 25 = false := Try.eqGuardType25
  rw [show List.map Extern.Stop.cell xs = bs xs from rfl, show List.map Extern.Stop.cell ys = bs ys from rfl] at h
  simp only [Nat.reduceAdd] at h
  simp [eqGuard, binOp, Op.equal, Op.maxDepth, h, hg, program, Sem.run]
theorem run_idNe (xs ys : List UInt8) (hx : xs.length = 32) (hy : ys.length = 32) (x y : Operand) (w : World) : ((do eqGuard .neq 25 x y (.agg (bs xs).toArray) (.agg (bs ys).toArray); binOp .neq 25 (.agg (bs xs).toArray) (.agg (bs ys).toArray) : Sem Value)).run Try.prog w = .ok (.bool (!(xs == ys))) w := by
  have h := run_equalIn_bytes w 9998 25 5 32 Try.underlying25 Try.underlying5 (fun w => by kernel_rfl) xs ys hx hy
  have hg : Try.prog.eqGuardType Try.prog.depth 25 = false := Try.eqGuardType25
  rw [show List.map Extern.Stop.cell xs = bs xs from rfl, show List.map Extern.Stop.cell ys = bs ys from rfl] at h
  simp only [Nat.reduceAdd] at h
  simp [eqGuard, binOp, Op.equal, Op.maxDepth, h, hg, program, Sem.run]
theorem nodeC_length {k s l : Int} {top : List UInt8} (ht : top.length = 32) : (nodeC k s l top).length = 35 := by simp [nodeC, bs_length, ht]
section
variable {E : Env} {n : Nat} {K : Slots} {L : Res} {o : Oper}
theorem Pu_idZero (ho : o.op = .build 25 #[]) : Pure Try.prog E n o K L (.agg (bs zeroId).toArray) := fun a w hA hS => by
  have h := run_build (P := Try.prog) w 25 #[] (bs zeroId).toArray (by kernel_rfl)
  simp [execOp, ho, h]
end

theorem wrong_spec (k s l : Int) (top : List UInt8) (ht : top.length = 32) (F : HP) : CallsS Try.prog 22 #[nodeV k s l top] F [] (fun v Ps => v = .int .i64 (wrongN k s l top) ∧ Ps = []) := by
  refine callsS_enter Try.func22 rfl Try.ntmps22 (by simp) (fun E => ?_)
  refine W_seq ?_
  refine W.pre (K' := [(0, _)]) (L' := [(0, _)]) ?_ ⟨rfl, trivial⟩ ⟨rfl, trivial⟩
  refine W_regL (WL_cons rfl rfl (by decide) (OpT_box (r := 101) rfl rfl rfl (fun g101 => (WL_pure rfl rfl (by decide) (Pu_assign rfl rfl) (WL_nil (X_then ?_))))))
  refine W_seq ?_
  refine W_block ?_
  refine W_seq ?_
  refine W.pre (K' := [(0, _), (1, _), (2, _)]) (L' := [(0, _), (101, _)]) ?_ ⟨rfl, ⟨rfl, ⟨rfl, trivial⟩⟩⟩ ⟨rfl, ⟨rfl, trivial⟩⟩
  refine W_regL (WL_pure rfl rfl (by decide) (Pu_fieldAddrB (off := 0) rfl rfl (by kernel_rfl)) (WL_pure rfl rfl (by decide) (Pu_loadB (r := 101) rfl Try.isAgg3 rfl rfl rfl) (WL_pure rfl rfl (by decide) (Pu_bin rfl rfl rfl (run_neq _ _ _ _ _ _)) (WL_pure rfl rfl (by decide) (Pu_move rfl rfl) (WL_guardP rfl rfl rfl rfl (by decide) (fun hb => (Pu_fieldAddrB (off := 0) rfl rfl (by kernel_rfl))) (WL_guardP rfl rfl rfl rfl (by decide) (fun hb => (Pu_loadB (r := 101) rfl Try.isAgg3 (ev_gv rfl hb) rfl rfl)) (WL_guardP rfl rfl rfl rfl (by decide) (fun hb => (Pu_bin rfl (ev_gv rfl hb) rfl (run_neq _ _ _ _ _ _))) (WL_pure rfl rfl (by decide) (Pu_and rfl rfl rfl) (WL_pure rfl rfl (by decide) (Pu_assign rfl rfl) (WL_nil (X_then ?_)))))))))))
  refine W_cond rfl (fun hc3 => ?_) (fun hc3 => ?_)
  ·
    refine W_seq ?_
    refine W.pre (K' := [(0, _), (1, _), (2, _), (3, _)]) (L' := [(0, _), (101, _)]) ?_ ⟨rfl, ⟨rfl, ⟨rfl, ⟨rfl, trivial⟩⟩⟩⟩ ⟨rfl, ⟨rfl, trivial⟩⟩
    refine W_regL (WL_pure rfl rfl (by decide) (Pu_assign rfl rfl) (WL_nil (X_then ?_)))
    refine W_ret (X_block_ret (X_then_ret ?_))
    exact X_ret [] (Ps := []) (res1 Try.results22 rfl) rfl (by decide) ⟨int_val (wrongN_kind hc3), rfl⟩
  ·
    refine W_seq ?_
    refine W.pre (K' := [(0, _), (1, _), (2, _), (3, _)]) (L' := [(0, _), (101, _)]) ?_ ⟨rfl, ⟨rfl, ⟨rfl, ⟨rfl, trivial⟩⟩⟩⟩ ⟨rfl, ⟨rfl, trivial⟩⟩
    refine W_draw (N := 28) (by kernel_rfl) rfl [(0, _), (101, _)] ⟨rfl, ⟨rfl, trivial⟩⟩ ?_
    refine (AH_take 0 rfl (by kernel_rfl) (by kernel_rfl) (by kernel_rfl) rfl rfl (by decide) (Pu_fieldAddrB (off := 1) rfl rfl (by kernel_rfl)) (AH_take 1 rfl (by kernel_rfl) (by kernel_rfl) (by kernel_rfl) rfl rfl (by decide) (Pu_loadB (r := 101) rfl Try.isAgg3 rfl rfl rfl) (AH_take 2 rfl (by kernel_rfl) (by kernel_rfl) (by kernel_rfl) rfl rfl (by decide) (Pu_bin rfl rfl rfl (run_lss _ _ _ _ _ _)) (AH_take 3 rfl (by kernel_rfl) (by kernel_rfl) (by kernel_rfl) rfl rfl (by decide) (Pu_move rfl rfl) (AH_takeG 4 rfl (by kernel_rfl) (by kernel_rfl) (by kernel_rfl) rfl rfl rfl rfl (by decide) (fun hb => (Pu_fieldAddrB (off := 1) rfl rfl (by kernel_rfl))) (AH_takeG 5 rfl (by kernel_rfl) (by kernel_rfl) (by kernel_rfl) rfl rfl rfl rfl (by decide) (fun hb => (Pu_loadB (r := 101) rfl Try.isAgg3 (ev_gv rfl hb) rfl rfl)) (AH_takeG 6 rfl (by kernel_rfl) (by kernel_rfl) (by kernel_rfl) rfl rfl rfl rfl (by decide) (fun hb => (Pu_bin rfl (ev_gv rfl hb) rfl (run_gtr _ _ _ _ _ _))) (AH_take 7 rfl (by kernel_rfl) (by kernel_rfl) (by kernel_rfl) rfl rfl (by decide) (Pu_or rfl rfl rfl) (AH_take 8 rfl (by kernel_rfl) (by kernel_rfl) (by kernel_rfl) rfl rfl (by decide) (Pu_move rfl rfl) (AH_takeG 9 rfl (by kernel_rfl) (by kernel_rfl) (by kernel_rfl) rfl rfl rfl rfl (by decide) (fun hb => (Pu_fieldAddrB (off := 2) rfl rfl (by kernel_rfl))) (AH_takeG 10 rfl (by kernel_rfl) (by kernel_rfl) (by kernel_rfl) rfl rfl rfl rfl (by decide) (fun hb => (Pu_loadB (r := 101) rfl Try.isAgg3 (ev_gv rfl hb) rfl rfl)) (AH_takeG 11 rfl (by kernel_rfl) (by kernel_rfl) (by kernel_rfl) rfl rfl rfl rfl (by decide) (fun hb => (Pu_fieldAddrB (off := 1) rfl rfl (by kernel_rfl))) (AH_takeG 12 rfl (by kernel_rfl) (by kernel_rfl) (by kernel_rfl) rfl rfl rfl rfl (by decide) (fun hb => (Pu_loadB (r := 101) rfl Try.isAgg3 (ev_gv rfl hb) rfl rfl)) (AH_ready [13] (by kernel_rfl) (by decide) ?_))))))))))))))
    refine AHs_consG (V := .int .i64 (lev s : Int)) rfl rfl rfl rfl rfl (by decide) (fun hb => (OpT_call 200 [0, 101] [] rfl Try.call32 (evL_cons (ev_gv rfl hb) evL_nil) rfl rfl (by decide) (by decide) (levels_spec s _) (fun v26 Ps26 hR26 => ⟨hR26.1, fun w hw => by rw [hR26.2] at hw; exact hw.sub (AllIn.look ⟨rfl, rfl, trivial⟩)⟩))) ⟨rfl, ⟨rfl, trivial⟩⟩ ?_ ?_
    ·
      refine (AH_takeG 14 rfl (by kernel_rfl) (by kernel_rfl) (by kernel_rfl) rfl rfl rfl rfl (by decide) (fun hb => (Pu_bin rfl (ev_gv rfl hb) (ev_gv rfl hb) (run_neq _ _ _ _ _ _))) (AH_take 15 rfl (by kernel_rfl) (by kernel_rfl) (by kernel_rfl) rfl rfl (by decide) (Pu_or rfl rfl rfl) (AH_take 16 rfl (by kernel_rfl) (by kernel_rfl) (by kernel_rfl) rfl rfl (by decide) (Pu_move rfl rfl) (AH_takeG 17 rfl (by kernel_rfl) (by kernel_rfl) (by kernel_rfl) rfl rfl rfl rfl (by decide) (fun hb => (Pu_fieldAddrB (off := 1) rfl rfl (by kernel_rfl))) (AH_takeG 18 rfl (by kernel_rfl) (by kernel_rfl) (by kernel_rfl) rfl rfl rfl rfl (by decide) (fun hb => (Pu_loadB (r := 101) rfl Try.isAgg3 (ev_gv rfl hb) rfl rfl)) (AH_takeG 19 rfl (by kernel_rfl) (by kernel_rfl) (by kernel_rfl) rfl rfl rfl rfl (by decide) (fun hb => (Pu_bin rfl (ev_gv rfl hb) rfl (run_eql _ _ _ _ _ _))) (AH_takeG 20 rfl (by kernel_rfl) (by kernel_rfl) (by kernel_rfl) rfl rfl rfl rfl (by decide) (fun hb => (Pu_move rfl (ev_gv rfl hb))) (AH_takeG2 21 rfl (by kernel_rfl) (by kernel_rfl) (by kernel_rfl) rfl rfl rfl rfl (by decide) (fun hb => (Pu_fieldAddrB (off := 3) rfl rfl (by kernel_rfl))) (AH_takeG2 22 rfl (by kernel_rfl) (by kernel_rfl) (by kernel_rfl) rfl rfl rfl rfl (by decide) (fun hb => (Pu_loadBN (r := 101) rfl Try.isAgg25 Try.sizeOf25 (ev_gv rfl hb) rfl (by rw [bs_length, ht]) (by show (bs top).take 32 = _; rw [List.take_of_length_le (by rw [bs_length, ht]; omega)]))) (AH_takeG2 23 rfl (by kernel_rfl) (by kernel_rfl) (by kernel_rfl) rfl rfl rfl rfl (by decide) (fun hb => (Pu_idZero rfl)) (AH_takeG2 24 rfl (by kernel_rfl) (by kernel_rfl) (by kernel_rfl) rfl rfl rfl rfl (by decide) (fun hb => (Pu_bin rfl (ev_gv rfl hb) (ev_gv rfl hb) (run_idNe _ _ ht zeroId_length _ _))) (AH_takeG 25 rfl (by kernel_rfl) (by kernel_rfl) (by kernel_rfl) rfl rfl rfl rfl (by decide) (fun hb => (Pu_and2 hb rfl (ev_gv rfl hb) rfl)) (AH_take 26 rfl (by kernel_rfl) (by kernel_rfl) (by kernel_rfl) rfl rfl (by decide) (Pu_or rfl rfl rfl) (AH_take 27 rfl (by kernel_rfl) (by kernel_rfl) (by kernel_rfl) rfl rfl (by decide) (Pu_assign rfl rfl) (AH_done (by kernel_rfl) (X_then ?_))))))))))))))))
      refine W_cond rfl (fun hc12 => ?_) (fun hc12 => ?_)
      ·
        refine W_seq ?_
        refine W.pre (K' := [(0, _), (1, _), (2, _), (3, _), (12, _)]) (L' := [(0, _), (101, _)]) ?_ ⟨rfl, ⟨rfl, ⟨rfl, ⟨rfl, ⟨rfl, trivial⟩⟩⟩⟩⟩ ⟨rfl, ⟨rfl, trivial⟩⟩
        refine W_regL (WL_pure rfl rfl (by decide) (Pu_assign rfl rfl) (WL_nil (X_then ?_)))
        refine W_ret (X_block_ret (X_then_ret ?_))
        exact X_ret [] (Ps := []) (res1 Try.results22 rfl) rfl (by decide) ⟨int_val (wrongN_bad hc3 hc12), rfl⟩
      ·
        refine W_skip (X_block (X_then ?_))
        refine W_seq ?_
        refine W.pre (K' := [(0, _), (1, _), (2, _), (3, _), (12, _)]) (L' := [(0, _), (101, _)]) ?_ ⟨rfl, ⟨rfl, ⟨rfl, ⟨rfl, ⟨rfl, trivial⟩⟩⟩⟩⟩ ⟨rfl, ⟨rfl, trivial⟩⟩
        refine W_regL (WL_pure rfl rfl (by decide) (Pu_assign rfl rfl) (WL_nil (X_then ?_)))
        refine W_ret ?_
        exact X_ret [] (Ps := []) (res1 Try.results22 rfl) rfl (by decide) ⟨int_val (wrongN_ok hc3 hc12), rfl⟩
    exact AHs_nil
theorem inode_spec (k s l : Int) (top : List UInt8) (ht : top.length = 32) (F : HP) : CallsS Try.prog 9 #[nodeV k s l top] F [] (fun v Ps => ∃ v', v = .tuple #[v', .int .i64 (wrongN k s l top)] ∧ Ps = [rowB 5 v' (inodeR k s l top)]) := by
  refine callsS_enter Try.func9 rfl Try.ntmps9 (by simp) (fun E => ?_)
  refine W_seq ?_
  refine W.pre (K' := [(0, _)]) (L' := [(0, _)]) ?_ ⟨rfl, trivial⟩ ⟨rfl, trivial⟩
  refine W_regL (WL_cons rfl rfl (by decide) (OpT_box (r := 101) rfl rfl rfl (fun g101 => (WL_pure rfl rfl (by decide) (Pu_assign rfl rfl) (WL_pure rfl rfl (by decide) (Pu_assign rfl rfl) (WL_nil (X_then ?_)))))))
  refine W_seq ?_
  refine W_seq ?_
  refine W.pre (K' := [(0, _), (1, _), (2, _), (3, _)]) (L' := [(0, _), (101, _)]) ?_ ⟨rfl, ⟨rfl, ⟨rfl, ⟨rfl, trivial⟩⟩⟩⟩ ⟨rfl, ⟨rfl, trivial⟩⟩
  refine W_regL (WL_pure rfl rfl (by decide) (Pu_loadBN (r := 101) rfl Try.isAgg27 Try.sizeOf27 rfl rfl (nodeC_length ht) (load_all (nodeC_length ht))) (WL_cons rfl rfl (by decide) (OpT_call 200 [0, 101] [] rfl Try.call22 rfl rfl rfl (by decide) (by decide) (wrong_spec k s l top ht _) (fun v7 Ps7 hR7 => ?_))))
  obtain ⟨rfl, rfl⟩ := hR7
  refine (WL_pure rfl rfl (by decide) (Pu_assign rfl rfl) (WL_nil (X_then ?_)))
  refine W_seq ?_
  refine W.pre (K' := [(0, _), (1, _), (2, _), (3, _), (4, _)]) (L' := [(0, _), (101, _)]) ?_ ⟨rfl, ⟨rfl, ⟨rfl, ⟨rfl, ⟨rfl, trivial⟩⟩⟩⟩⟩ ⟨rfl, ⟨rfl, trivial⟩⟩
  refine W_regL (WL_pure rfl rfl (by decide) (Pu_move rfl rfl) (WL_pure rfl rfl (by decide) (Pu_bin rfl rfl rfl (run_neq _ _ _ _ _ _)) (WL_nil (X_then ?_))))
  refine W_cond rfl (fun hc9 => ?_) (fun hc9 => ?_)
  ·
    refine W_seq ?_
    refine W.pre (K' := [(0, _), (1, _), (2, _), (3, _), (4, _), (9, _)]) (L' := [(0, _), (101, _)]) ?_ ⟨rfl, ⟨rfl, ⟨rfl, ⟨rfl, ⟨rfl, ⟨rfl, trivial⟩⟩⟩⟩⟩⟩ ⟨rfl, ⟨rfl, trivial⟩⟩
    refine W_regL (WL_pure rfl rfl (by decide) (Pu_move rfl rfl) (WL_pure rfl rfl (by decide) (Pu_assign rfl rfl) (WL_pure rfl rfl (by decide) (Pu_assign rfl rfl) (WL_nil (X_then ?_)))))
    refine W_ret (X_then_ret ?_)
    refine X_nilRow 900 5 1 ?_
    exact X_ret [900] (Ps := [_]) (res2 Try.results9 rfl rfl) rfl (by decide) ⟨_, rfl, by rw [inodeR, if_neg (by simpa using hc9)]; rfl⟩
  ·
    refine W_skip (X_then ?_)
    refine W_seq ?_
    refine W.pre (K' := [(0, _), (1, _), (2, _), (3, _), (4, _), (9, _)]) (L' := [(0, _), (101, _)]) ?_ ⟨rfl, ⟨rfl, ⟨rfl, ⟨rfl, ⟨rfl, ⟨rfl, trivial⟩⟩⟩⟩⟩⟩ ⟨rfl, ⟨rfl, trivial⟩⟩
    refine W_draw (N := 9) (by kernel_rfl) rfl [(0, _), (101, _)] ⟨rfl, ⟨rfl, trivial⟩⟩ ?_
    refine (AH_take 0 rfl (by kernel_rfl) (by kernel_rfl) (by kernel_rfl) rfl rfl (by decide) (Pu_fieldAddrB (off := 0) rfl rfl (by kernel_rfl)) (AH_take 1 rfl (by kernel_rfl) (by kernel_rfl) (by kernel_rfl) rfl rfl (by decide) (Pu_loadB (r := 101) rfl Try.isAgg3 rfl rfl rfl) (AH_take 2 rfl (by kernel_rfl) (by kernel_rfl) (by kernel_rfl) rfl rfl (by decide) (Pu_conv rfl rfl (conv_byte _ _ Try.runUnderlying3 Try.runUnderlying5)) (AH_take 4 rfl (by kernel_rfl) (by kernel_rfl) (by kernel_rfl) rfl rfl (by decide) (Pu_fieldAddrB (off := 1) rfl rfl (by kernel_rfl)) (AH_take 5 rfl (by kernel_rfl) (by kernel_rfl) (by kernel_rfl) rfl rfl (by decide) (Pu_loadB (r := 101) rfl Try.isAgg3 rfl rfl rfl) (AH_ready [3, 6] (by kernel_rfl) (by decide) ?_))))))
    refine AHs_cons rfl rfl rfl (by decide) (OpT_buildOnes (r := 201) (bs [105, byte k]) rfl rfl Try.runUnderlying28 Try.sizeOf5 Try.zeroValue5 rfl rfl (by decide) rfl (bs_cells _) (fun v14 => ⟨⟨rfl, ⟨rfl, trivial⟩⟩, ?_⟩)) ?_
    ·
      refine (AH_ready [6] (by kernel_rfl) (by decide) ?_)
      refine AHs_cons rfl rfl rfl (by decide) (OpT_call 300 [0, 101, 201] [] rfl Try.call23 rfl rfl rfl (by decide) (by decide) (number_spec s 4 (by omega) _) (fun v17 Ps17 hR17 => ?_)) ?_
      ·
        subst hR17
        refine ⟨⟨rfl, ⟨rfl, trivial⟩⟩, ?_⟩
        refine (AH_ready [7] (by kernel_rfl) (by decide) ?_)
        refine AHs_cons rfl rfl rfl (by decide) (OpT_append (r := 201) (r2 := 300) rfl Try.underlying28 TI.hi5 TI.hz5 TI.hs5 TI.hby5 TI.hzs5 (by decide) rfl rfl rfl rfl (fun _ h => rowP_rd h) (bs_one _) (by unfold maxLen; omega) (by omega) (fun v18 => ?_)) ?_
        ·
          refine ⟨⟨rfl, ⟨rfl, trivial⟩⟩, ?_⟩
          refine (AH_take 8 rfl (by kernel_rfl) (by kernel_rfl) (by kernel_rfl) rfl rfl (by decide) (Pu_assign rfl rfl) (AH_done (by kernel_rfl) (X_then ?_)))
          refine W_seq ?_
          refine W.pre (K' := [(0, _), (1, _), (2, _), (3, _), (4, _), (5, _), (9, _)]) (L' := [(0, _), (101, _), (201, _), (300, _)]) ?_ ⟨rfl, ⟨rfl, ⟨rfl, ⟨rfl, ⟨rfl, ⟨rfl, ⟨rfl, trivial⟩⟩⟩⟩⟩⟩⟩ ⟨rfl, ⟨rfl, ⟨rfl, ⟨rfl, trivial⟩⟩⟩⟩
          refine W_draw (N := 11) (by kernel_rfl) rfl [(0, _), (101, _)] ⟨rfl, ⟨rfl, trivial⟩⟩ ?_
          refine (AH_take 0 rfl (by kernel_rfl) (by kernel_rfl) (by kernel_rfl) rfl rfl (by decide) (Pu_move rfl rfl) (AH_take 1 rfl (by kernel_rfl) (by kernel_rfl) (by kernel_rfl) rfl rfl (by decide) (Pu_fieldAddrB (off := 2) rfl rfl (by kernel_rfl)) (AH_take 2 rfl (by kernel_rfl) (by kernel_rfl) (by kernel_rfl) rfl rfl (by decide) (Pu_loadB (r := 101) rfl Try.isAgg3 rfl rfl rfl) (AH_take 3 rfl (by kernel_rfl) (by kernel_rfl) (by kernel_rfl) rfl rfl (by decide) (Pu_conv rfl rfl (conv_byte _ _ Try.runUnderlying3 Try.runUnderlying5)) (AH_take 6 rfl (by kernel_rfl) (by kernel_rfl) (by kernel_rfl) rfl rfl (by decide) (Pu_fieldAddrB (off := 3) rfl rfl (by kernel_rfl)) (AH_take 7 rfl (by kernel_rfl) (by kernel_rfl) (by kernel_rfl) rfl rfl (by decide) (Pu_sliceArr rfl Try.runUnderlying25 Try.sizeOf5 rfl) (AH_ready [4] (by kernel_rfl) (by decide) ?_)))))))
          refine AHs_cons rfl rfl rfl (by decide) (OpT_buildOnes (r := 301) (bs [byte l]) rfl rfl Try.runUnderlying28 Try.sizeOf5 Try.zeroValue5 rfl rfl (by decide) rfl (bs_cells _) (fun v23 => ⟨⟨rfl, ⟨rfl, trivial⟩⟩, ?_⟩)) ?_
          ·
            refine (AH_ready [5] (by kernel_rfl) (by decide) ?_)
            refine AHs_cons rfl rfl rfl (by decide) (OpT_append (r := 201) (r2 := 301) rfl Try.underlying28 TI.hi5 TI.hz5 TI.hs5 TI.hby5 TI.hzs5 (by decide) rfl rfl rfl rfl (fun _ h => rowP_rd h) (bs_one _) (by unfold maxLen; omega) (by omega) (fun v24 => ?_)) ?_
            ·
              refine ⟨⟨rfl, ⟨rfl, trivial⟩⟩, ?_⟩
              refine (AH_ready [8] (by kernel_rfl) (by decide) ?_)
              refine AHs_cons rfl rfl rfl (by decide) (OpT_append (r := 201) (r2 := 101) rfl Try.underlying28 TI.hi5 TI.hz5 TI.hs5 TI.hby5 TI.hzs5 (by decide) rfl rfl rfl rfl (fun _ h => blk_rd (xs := bs top) h (take_top ht) (by rw [bs_length, ht]) (by omega)) (bs_one _) (by unfold maxLen; omega) (by omega) (fun v27 => ?_)) ?_
              ·
                refine ⟨⟨rfl, ⟨rfl, trivial⟩⟩, ?_⟩
                refine (AH_take 9 rfl (by kernel_rfl) (by kernel_rfl) (by kernel_rfl) rfl rfl (by decide) (Pu_assign rfl rfl) (AH_take 10 rfl (by kernel_rfl) (by kernel_rfl) (by kernel_rfl) rfl rfl (by decide) (Pu_assign rfl rfl) (AH_done (by kernel_rfl) (X_then ?_))))
                refine W_ret ?_
                exact X_ret [201] (Ps := [_]) (res2 Try.results9 rfl rfl) rfl (by decide) ⟨_, by simp at hc9; rw [hc9], by rw [inodeR, if_pos (by simpa using hc9)]; exact congrArg (· :: []) (rowB_of _ (by simp [inodeB, numB_length, ht]) (by unfold inodeB; simp only [bs_append]))⟩
              exact AHs_nil
            exact AHs_nil
          exact AHs_nil
        exact AHs_nil
      exact AHs_nil
    refine AHs_cons rfl rfl rfl (by decide) (OpT_call 300 [0, 101] [] rfl Try.call23 rfl rfl rfl (by decide) (by decide) (number_spec s 4 (by omega) _) (fun v17 Ps17 hR17 => ?_)) ?_
    ·
      subst hR17
      refine ⟨⟨rfl, ⟨rfl, trivial⟩⟩, ?_⟩
      refine (AH_ready [3] (by kernel_rfl) (by decide) ?_)
      refine AHs_cons rfl rfl rfl (by decide) (OpT_buildOnes (r := 301) (bs [105, byte k]) rfl rfl Try.runUnderlying28 Try.sizeOf5 Try.zeroValue5 rfl rfl (by decide) rfl (bs_cells _) (fun v14 => ⟨⟨rfl, ⟨rfl, trivial⟩⟩, ?_⟩)) ?_
      ·
        refine (AH_ready [7] (by kernel_rfl) (by decide) ?_)
        refine AHs_cons rfl rfl rfl (by decide) (OpT_append (r := 301) (r2 := 300) rfl Try.underlying28 TI.hi5 TI.hz5 TI.hs5 TI.hby5 TI.hzs5 (by decide) rfl rfl rfl rfl (fun _ h => rowP_rd h) (bs_one _) (by unfold maxLen; omega) (by omega) (fun v18 => ?_)) ?_
        ·
          refine ⟨⟨rfl, ⟨rfl, trivial⟩⟩, ?_⟩
          refine (AH_take 8 rfl (by kernel_rfl) (by kernel_rfl) (by kernel_rfl) rfl rfl (by decide) (Pu_assign rfl rfl) (AH_done (by kernel_rfl) (X_then ?_)))
          refine W_seq ?_
          refine W.pre (K' := [(0, _), (1, _), (2, _), (3, _), (4, _), (5, _), (9, _)]) (L' := [(0, _), (101, _), (300, _), (301, _)]) ?_ ⟨rfl, ⟨rfl, ⟨rfl, ⟨rfl, ⟨rfl, ⟨rfl, ⟨rfl, trivial⟩⟩⟩⟩⟩⟩⟩ ⟨rfl, ⟨rfl, ⟨rfl, ⟨rfl, trivial⟩⟩⟩⟩
          refine W_draw (N := 11) (by kernel_rfl) rfl [(0, _), (101, _)] ⟨rfl, ⟨rfl, trivial⟩⟩ ?_
          refine (AH_take 0 rfl (by kernel_rfl) (by kernel_rfl) (by kernel_rfl) rfl rfl (by decide) (Pu_move rfl rfl) (AH_take 1 rfl (by kernel_rfl) (by kernel_rfl) (by kernel_rfl) rfl rfl (by decide) (Pu_fieldAddrB (off := 2) rfl rfl (by kernel_rfl)) (AH_take 2 rfl (by kernel_rfl) (by kernel_rfl) (by kernel_rfl) rfl rfl (by decide) (Pu_loadB (r := 101) rfl Try.isAgg3 rfl rfl rfl) (AH_take 3 rfl (by kernel_rfl) (by kernel_rfl) (by kernel_rfl) rfl rfl (by decide) (Pu_conv rfl rfl (conv_byte _ _ Try.runUnderlying3 Try.runUnderlying5)) (AH_take 6 rfl (by kernel_rfl) (by kernel_rfl) (by kernel_rfl) rfl rfl (by decide) (Pu_fieldAddrB (off := 3) rfl rfl (by kernel_rfl)) (AH_take 7 rfl (by kernel_rfl) (by kernel_rfl) (by kernel_rfl) rfl rfl (by decide) (Pu_sliceArr rfl Try.runUnderlying25 Try.sizeOf5 rfl) (AH_ready [4] (by kernel_rfl) (by decide) ?_)))))))
          refine AHs_cons rfl rfl rfl (by decide) (OpT_buildOnes (r := 302) (bs [byte l]) rfl rfl Try.runUnderlying28 Try.sizeOf5 Try.zeroValue5 rfl rfl (by decide) rfl (bs_cells _) (fun v23 => ⟨⟨rfl, ⟨rfl, trivial⟩⟩, ?_⟩)) ?_
          ·
            refine (AH_ready [5] (by kernel_rfl) (by decide) ?_)
            refine AHs_cons rfl rfl rfl (by decide) (OpT_append (r := 301) (r2 := 302) rfl Try.underlying28 TI.hi5 TI.hz5 TI.hs5 TI.hby5 TI.hzs5 (by decide) rfl rfl rfl rfl (fun _ h => rowP_rd h) (bs_one _) (by unfold maxLen; omega) (by omega) (fun v24 => ?_)) ?_
            ·
              refine ⟨⟨rfl, ⟨rfl, trivial⟩⟩, ?_⟩
              refine (AH_ready [8] (by kernel_rfl) (by decide) ?_)
              refine AHs_cons rfl rfl rfl (by decide) (OpT_append (r := 301) (r2 := 101) rfl Try.underlying28 TI.hi5 TI.hz5 TI.hs5 TI.hby5 TI.hzs5 (by decide) rfl rfl rfl rfl (fun _ h => blk_rd (xs := bs top) h (take_top ht) (by rw [bs_length, ht]) (by omega)) (bs_one _) (by unfold maxLen; omega) (by omega) (fun v27 => ?_)) ?_
              ·
                refine ⟨⟨rfl, ⟨rfl, trivial⟩⟩, ?_⟩
                refine (AH_take 9 rfl (by kernel_rfl) (by kernel_rfl) (by kernel_rfl) rfl rfl (by decide) (Pu_assign rfl rfl) (AH_take 10 rfl (by kernel_rfl) (by kernel_rfl) (by kernel_rfl) rfl rfl (by decide) (Pu_assign rfl rfl) (AH_done (by kernel_rfl) (X_then ?_))))
                refine W_ret ?_
                exact X_ret [301] (Ps := [_]) (res2 Try.results9 rfl rfl) rfl (by decide) ⟨_, by simp at hc9; rw [hc9], by rw [inodeR, if_pos (by simpa using hc9)]; exact congrArg (· :: []) (rowB_of _ (by simp [inodeB, numB_length, ht]) (by unfold inodeB; simp only [bs_append]))⟩
              exact AHs_nil
            exact AHs_nil
          exact AHs_nil
        exact AHs_nil
      exact AHs_nil
    exact AHs_nil
end Go.Proofs.Ytnhidehpacidnaa
