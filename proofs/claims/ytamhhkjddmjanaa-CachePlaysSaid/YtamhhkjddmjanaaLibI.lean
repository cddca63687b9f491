/- Go's own slices, of ids. -/
import Derived.Test.YtamhhkjddmjanaaIdT
namespace Go.Proofs.Ytamhhkjddmjanaa
open Go.RowKit
set_option linter.unusedVariables false

theorem index_spec (v : Value) (l : List (List UInt8)) (hl : Ids l) (hm : l.length ≤ maxLen) (k : List UInt8) (hk : k.length = 32) (F : HP) (hF : ∀ h, F h → rdI v l h) : CallsS Try.prog 25 #[v, idV k] F [] (fun r Ps => r = .int .i64 (idxI k l) ∧ Ps = []) := by
  unfold maxLen at hm
  refine callsS_enter Try.func25 rfl Try.ntmps25 (by simp) (fun E => ?_)
  refine W_seq ?_
  refine W.pre (K' := [(0, _), (1, _)]) (L' := [(0, _)]) ?_ ⟨rfl, ⟨rfl, trivial⟩⟩ ⟨rfl, trivial⟩
  refine W_regL (WL_cons rfl rfl (by decide) (OpT_box (r := 101) rfl rfl rfl (fun g101 => (WL_pure rfl rfl (by decide) (Pu_assign rfl rfl) (WL_nil (X_then ?_))))))
  refine W_seq ?_
  refine W_seq ?_
  refine W.pre (K' := [(0, _), (1, _), (3, _), (4, _)]) (L' := [(0, _), (101, _)]) ?_ ⟨rfl, ⟨rfl, ⟨rfl, ⟨rfl, trivial⟩⟩⟩⟩ ⟨rfl, ⟨rfl, trivial⟩⟩
  refine W_regL (WL_pure rfl rfl (by decide) (Pu_move rfl rfl) (WL_pure rfl rfl (by decide) (Pu_len (r := 0) rfl Try.runUnderlying37 rfl rfl hF) (WL_pure rfl rfl (by decide) (Pu_move rfl rfl) (WL_nil (X_then ?_)))))
  refine W_block ?_
  refine W_loop (α := Nat) (fun i => [(0, v), (3, .pointer (some ⟨g101, 0, none⟩)), (7, .int .i64 (l.length : Int)), (8, .int .i64 (i : Int))]) (fun i => [(0, F), (101, blk g101 33 (bs k))]) (fun i => i ≤ l.length ∧ ∀ j, j < i → (k == l.getD j []) = false) (fun i => l.length - i) (0) ⟨Nat.zero_le _, fun j hj => by omega⟩ ⟨rfl, ⟨rfl, ⟨rfl, ⟨rfl, trivial⟩⟩⟩⟩ ⟨rfl, ⟨rfl, trivial⟩⟩ (fun x hx => ?_)
  obtain ⟨hxl, hno⟩ := hx
  refine W_seq ?_
  refine W.pre (K' := [(0, _), (3, _), (7, _), (8, _)]) (L' := [(0, _), (101, _)]) ?_ ⟨rfl, ⟨rfl, ⟨rfl, ⟨rfl, trivial⟩⟩⟩⟩ ⟨rfl, ⟨rfl, trivial⟩⟩
  refine W_regL (WL_pure rfl rfl (by decide) (Pu_bin rfl rfl rfl (run_lss _ _ _ _ _ _)) (WL_nil (X_then ?_)))
  refine W_seq ?_
  refine W_cond rfl (fun hc9 => ?_) (fun hc9 => ?_)
  ·
    have hlt : x < l.length := by have := of_decide_eq_true hc9; omega
    have hid := hl.get hlt
    refine W_skip (X_then ?_)
    refine W_seq ?_
    refine W_block ?_
    refine W_seq ?_
    refine W.pre (K' := [(0, _), (3, _), (7, _), (8, _), (9, _)]) (L' := [(0, _), (101, _)]) ?_ ⟨rfl, ⟨rfl, ⟨rfl, ⟨rfl, ⟨rfl, trivial⟩⟩⟩⟩⟩ ⟨rfl, ⟨rfl, trivial⟩⟩
    refine W_regL (WL_pure rfl rfl (by decide) (Pu_move rfl rfl) (WL_pure rfl rfl (by decide) (Pu_assign rfl rfl) (WL_nil (X_then ?_))))
    refine W_seq ?_
    refine W.pre (K' := [(0, _), (3, _), (5, _), (7, _), (8, _), (9, _)]) (L' := [(0, _), (101, _)]) ?_ ⟨rfl, ⟨rfl, ⟨rfl, ⟨rfl, ⟨rfl, ⟨rfl, trivial⟩⟩⟩⟩⟩⟩ ⟨rfl, ⟨rfl, trivial⟩⟩
    refine W_draw (N := 6) (by kernel_rfl) rfl [(0, _), (101, _)] ⟨rfl, ⟨rfl, trivial⟩⟩ ?_
    refine (AH_take 0 rfl (by kernel_rfl) (by kernel_rfl) (by kernel_rfl) rfl rfl (by decide) (Pu_loadBN (r := 101) rfl Try.isAgg33 Try.sizeOf33 rfl rfl ((bs_length _).trans hk) (load_all ((bs_length _).trans hk))) (AH_take 1 rfl (by kernel_rfl) (by kernel_rfl) (by kernel_rfl) rfl rfl (by decide) (Pu_move rfl rfl) (AH_take 2 rfl (by kernel_rfl) (by kernel_rfl) (by kernel_rfl) rfl rfl (by decide) (Pu_move rfl rfl) (AH_take 3 rfl (by kernel_rfl) (by kernel_rfl) (by kernel_rfl) rfl rfl (by decide) (Pu_idxS (r := 0) rfl Try.runUnderlying37 Try.sizeOf33 rfl rfl rfl hF (by omega)) (AH_take 4 rfl (by kernel_rfl) (by kernel_rfl) (by kernel_rfl) rfl rfl (by decide) (Pu_loadSN (r := 0) rfl Try.isAgg33 Try.sizeOf33 rfl rfl hF ((bs_length _).trans hid) (by decide) (idsC_get (k := x) hl hlt)) (AH_take 5 rfl (by kernel_rfl) (by kernel_rfl) (by kernel_rfl) rfl rfl (by decide) (Pu_bin rfl rfl rfl (run_idEq _ _ hk hid _ _)) (AH_done (by kernel_rfl) (X_then ?_))))))))
    refine W_cond rfl (fun hc16 => ?_) (fun hc16 => ?_)
    ·
      refine W_seq ?_
      refine W.pre (K' := [(0, _), (3, _), (5, _), (7, _), (8, _), (9, _), (16, _)]) (L' := [(0, _), (101, _)]) ?_ ⟨rfl, ⟨rfl, ⟨rfl, ⟨rfl, ⟨rfl, ⟨rfl, ⟨rfl, trivial⟩⟩⟩⟩⟩⟩⟩ ⟨rfl, ⟨rfl, trivial⟩⟩
      refine W_regL (WL_pure rfl rfl (by decide) (Pu_move rfl rfl) (WL_pure rfl rfl (by decide) (Pu_assign rfl rfl) (WL_nil (X_then ?_))))
      refine W_ret (X_block_ret (X_then_ret (X_then_ret (X_block_ret (X_then_ret ?_)))))
      exact X_ret [] (Ps := []) (res1 Try.results25 rfl) rfl (by decide) ⟨by rw [idx_found hlt hno hc16], rfl⟩
    ·
      refine W_skip (X_block (X_then ?_))
      refine W.pre (K' := [(0, _), (3, _), (5, _), (7, _), (8, _), (9, _), (16, _)]) (L' := [(0, _), (101, _)]) ?_ ⟨rfl, ⟨rfl, ⟨rfl, ⟨rfl, ⟨rfl, ⟨rfl, ⟨rfl, trivial⟩⟩⟩⟩⟩⟩⟩ ⟨rfl, ⟨rfl, trivial⟩⟩
      refine W_regL (WL_pure rfl rfl (by decide) (Pu_bin rfl rfl rfl (run_add _ _ _ _ _ (by omega))) (WL_pure rfl rfl (by decide) (Pu_move rfl rfl) (WL_nil ?_)))
      exact X_round (x + 1) ⟨hlt, fun j hj => by rcases Nat.lt_or_ge j x with h | h; exact hno j h; obtain rfl : j = x := (by omega); exact hc16⟩ (by omega) ⟨rfl, rfl, rfl, rfl, trivial⟩ ⟨rfl, rfl, trivial⟩
  ·
    obtain rfl : x = l.length := by have := of_decide_eq_false hc9; omega
    refine W_exit (X_then_exit (X_then_exit (X_block_exit (X_then ?_))))
    refine W_seq ?_
    refine W.pre (K' := [(0, _), (3, _), (7, _), (8, _), (9, _)]) (L' := [(0, _), (101, _)]) ?_ ⟨rfl, ⟨rfl, ⟨rfl, ⟨rfl, ⟨rfl, trivial⟩⟩⟩⟩⟩ ⟨rfl, ⟨rfl, trivial⟩⟩
    refine W_regL (WL_pure rfl rfl (by decide) (Pu_assign rfl rfl) (WL_nil (X_then ?_)))
    refine W_ret ?_
    exact X_ret [] (Ps := []) (res1 Try.results25 rfl) rfl (by decide) ⟨by rw [idx_none hno], rfl⟩
theorem delete_spec (e : TypeId) (he : e = 33) (v : Value) (l : List (List UInt8)) (hl : Ids l) (i : Nat) (hi : i < l.length) (hm : l.length ≤ maxLen) (F : HP) : CallsS Try.prog 26 #[v, .int .i64 (i : Int), .int .i64 ((i : Int) + 1)] F [rowI e v l] (fun r Ps => r.oneCell' = true ∧ Ps = [rowI e r (l.eraseIdx i)]) := by
  subst he
  unfold rowI
  unfold maxLen at hm
  refine callsS_enter Try.func26 rfl Try.ntmps26 (by simp) (fun E => ?_)
  refine W_seq ?_
  refine W.pre (K' := [(0, _), (1, _), (2, _)]) (L' := [(0, _), (1, _)]) ?_ ⟨rfl, ⟨rfl, ⟨rfl, trivial⟩⟩⟩ ⟨rfl, ⟨rfl, trivial⟩⟩
  refine W_regL (WL_pure rfl rfl (by decide) (Pu_assign rfl rfl) (WL_nil (X_then ?_)))
  refine W_seq ?_
  refine W.pre (K' := [(0, _), (1, _), (2, _), (6, _)]) (L' := [(0, _), (1, _)]) ?_ ⟨rfl, ⟨rfl, ⟨rfl, ⟨rfl, trivial⟩⟩⟩⟩ ⟨rfl, ⟨rfl, trivial⟩⟩
  refine W_regL (WL_pure rfl rfl (by decide) (Pu_move rfl rfl) (WL_pure rfl rfl (by decide) (Pu_move rfl rfl) (WL_pure rfl rfl (by decide) (Pu_move rfl rfl) (WL_pure rfl rfl (by decide) (Pu_move rfl rfl) (WL_pure rfl rfl (by decide) (Pu_len (r := 1) rfl Try.runUnderlying37 rfl rfl (fun _ h => rowP_rd h)) (WL_pure rfl rfl (by decide) (Pu_slice3 (r := 1) (a := i) (b := i + 1) (d := l.length) (size := 32) rfl Try.runUnderlying37 Try.sizeOf33 rfl rfl (fun _ h => rowP_rd h) rfl (evK_eq rfl (int_eq (show (i : Int) + 1 = ((i + 1 : Nat) : Int) by omega))) rfl (by omega) (by omega) (Nat.le_refl _)) (WL_nil (X_then ?_))))))))
  refine W_seq ?_
  refine W_seq ?_
  refine W.pre (K' := [(0, _), (1, _), (2, _), (6, _)]) (L' := [(0, _), (1, _)]) ?_ ⟨rfl, ⟨rfl, ⟨rfl, ⟨rfl, trivial⟩⟩⟩⟩ ⟨rfl, ⟨rfl, trivial⟩⟩
  refine W_regL (WL_pure rfl rfl (by decide) (Pu_move rfl rfl) (WL_pure rfl rfl (by decide) (Pu_move rfl rfl) (WL_pure rfl rfl (by decide) (Pu_bin rfl rfl rfl (run_eql _ _ _ _ _ _)) (WL_nil (X_then ?_)))))
  refine W_false rfl (decide_eq_false (by omega)) ?_
  refine W_skip (X_then ?_)
  refine W_seq ?_
  refine W.pre (K' := [(0, _), (1, _), (2, _), (6, _), (16, _)]) (L' := [(0, _), (1, _)]) ?_ ⟨rfl, ⟨rfl, ⟨rfl, ⟨rfl, ⟨rfl, trivial⟩⟩⟩⟩⟩ ⟨rfl, ⟨rfl, trivial⟩⟩
  refine W_regL (WL_pure rfl rfl (by decide) (Pu_move rfl rfl) (WL_pure rfl rfl (by decide) (Pu_len (r := 1) rfl Try.runUnderlying37 rfl rfl (fun _ h => rowP_rd h)) (WL_pure rfl rfl (by decide) (Pu_assign rfl rfl) (WL_nil (X_then ?_)))))
  refine W_seq ?_
  refine W.pre (K' := [(0, _), (1, _), (2, _), (6, _), (7, _), (16, _)]) (L' := [(0, _), (1, _)]) ?_ ⟨rfl, ⟨rfl, ⟨rfl, ⟨rfl, ⟨rfl, ⟨rfl, trivial⟩⟩⟩⟩⟩⟩ ⟨rfl, ⟨rfl, trivial⟩⟩
  refine W_openRow 1 rfl (by omega) (fun g cap cs hv hnc hcm hcs htk => ?_)
  subst hv
  refine W_draw (N := 8) (by kernel_rfl) rfl [(0, _)] ⟨rfl, trivial⟩ ?_
  refine (AH_take 0 rfl (by kernel_rfl) (by kernel_rfl) (by kernel_rfl) rfl rfl (by decide) (Pu_move rfl rfl) (AH_take 1 rfl (by kernel_rfl) (by kernel_rfl) (by kernel_rfl) rfl rfl (by decide) (Pu_move rfl rfl) (AH_take 2 rfl (by kernel_rfl) (by kernel_rfl) (by kernel_rfl) rfl rfl (by decide) (Pu_sliceK (a := 0) (b := i) rfl Try.runUnderlying37 Try.sizeOf33 rfl (.inl ⟨rfl, rfl⟩) (.inr ⟨_, _, _, rfl, rfl, rfl⟩) (Nat.zero_le _) (by omega) (by omega)) (AH_take 3 rfl (by kernel_rfl) (by kernel_rfl) (by kernel_rfl) rfl rfl (by decide) (Pu_move rfl rfl) (AH_take 4 rfl (by kernel_rfl) (by kernel_rfl) (by kernel_rfl) rfl rfl (by decide) (Pu_move rfl rfl) (AH_ready [5] (by kernel_rfl) (by decide) ?_))))))
  refine AHs_cons rfl rfl rfl (by decide) (OpT_run (Pu_slice (r := 1) (a := i + 1) (b := l.length) rfl Try.runUnderlying37 Try.sizeOf33 rfl rfl (fun _ h => blk_rdP h hnc hcs htk) (.inr ⟨_, _, _, rfl, rfl, (by omega)⟩) (.inl ⟨rfl, rfl⟩) (by omega) (Nat.le_refl _)) ⟨⟨rfl, trivial⟩, ?_⟩) ?_
  ·
    refine (AH_ready [6] (by kernel_rfl) (by decide) ?_)
    refine AHs_cons rfl rfl rfl (by decide) (OpT_appendIn (r := 1) (r2 := 1) rfl Try.underlying37 TI.hi33 TI.hs33 (by decide) rfl rfl rfl rfl (fun h hp => rdP_sub (blk_rdP hp hnc hcs htk) (by omega) (Nat.le_refl _)) (fun u hu => idsC_oneCell l u (List.mem_of_mem_drop (List.mem_of_mem_take hu))) (by omega) (by rw [hcs]; exact Nat.mul_le_mul_right _ (by omega)) rfl ?_) ?_
    ·
      refine ⟨⟨rfl, trivial⟩, ?_⟩
      refine (AH_take 7 rfl (by kernel_rfl) (by kernel_rfl) (by kernel_rfl) rfl rfl (by decide) (Pu_assign rfl rfl) (AH_done (by kernel_rfl) (X_then ?_)))
      refine W_seq ?_
      refine W.pre (K' := [(0, _), (1, _), (2, _), (6, _), (7, _), (16, _)]) (L' := [(0, _), (1, _)]) ?_ ⟨rfl, ⟨rfl, ⟨rfl, ⟨rfl, ⟨rfl, ⟨rfl, trivial⟩⟩⟩⟩⟩⟩ ⟨rfl, ⟨rfl, trivial⟩⟩
      refine W_regL (WL_pure rfl rfl (by decide) (Pu_move rfl rfl) (WL_pure rfl rfl (by decide) (Pu_move rfl rfl) (WL_pure rfl rfl (by decide) (Pu_lenK rfl Try.runUnderlying37 rfl) (WL_pure rfl rfl (by decide) (Pu_move rfl rfl) (WL_pure rfl rfl (by decide) (Pu_sliceK (a := i + (l.length - (i + 1))) (b := l.length) rfl Try.runUnderlying37 Try.sizeOf33 rfl (.inr ⟨_, _, _, rfl, rfl, rfl⟩) (.inr ⟨_, _, _, rfl, rfl, rfl⟩) (by omega) (by omega) (by omega)) (WL_cons0 rfl rfl (OpT_clearB (r := 1) (size := 32) rfl Try.underlying37 (zero_run (by kernel_rfl : (Try.prog.info? 33).bind (·.zero) = some (.agg (bs zeroId).toArray))) (by kernel_rfl) (bs_one zeroId) rfl rfl (by rw [over_length _ _ _ (by rw [List.length_take, List.length_drop, idsC_length hl, hcs]; have := Nat.mul_le_mul_right 32 hnc; omega), hcs]; have := Nat.mul_le_mul_right 32 hnc; omega) (fun zs hzs => ?_))))))))
      refine (WL_nil (X_then ?_))
      refine W_seq ?_
      refine W.pre (K' := [(0, _), (1, _), (2, _), (6, _), (7, _), (16, _)]) (L' := [(0, _), (1, _)]) ?_ ⟨rfl, ⟨rfl, ⟨rfl, ⟨rfl, ⟨rfl, ⟨rfl, trivial⟩⟩⟩⟩⟩⟩ ⟨rfl, ⟨rfl, trivial⟩⟩
      refine W_regL (WL_pure rfl rfl (by decide) (Pu_move rfl rfl) (WL_pure rfl rfl (by decide) (Pu_assign rfl rfl) (WL_nil (X_then ?_))))
      refine W_ret ?_
      refine X_turn 1 rfl (fun h hb => rowP_close (n := i + (l.length - (i + 1))) hb (by omega) hcm (by rw [over_length _ _ _ (by rw [hzs, over_length _ _ _ (by rw [List.length_take, List.length_drop, idsC_length hl, hcs]; have := Nat.mul_le_mul_right 32 hnc; omega), hcs]; have := Nat.mul_le_mul_right 32 hnc; omega), over_length _ _ _ (by rw [List.length_take, List.length_drop, idsC_length hl, hcs]; have := Nat.mul_le_mul_right 32 hnc; omega), hcs]) (del_cells hl hi hcs hnc htk)) ?_
      exact X_ret [1] (Ps := [_]) (res1 Try.results26 rfl) rfl (by decide) ⟨rfl, congrArg (· :: []) (rowI_of (l.eraseIdx i) (by rw [List.length_eraseIdx, if_pos hi]; omega) rfl)⟩
    exact AHs_nil
  exact AHs_nil
theorem cloneI_spec (v : Value) (l : List (List UInt8)) (hm : l.length ≤ 4000000000) (F : HP) (hF : ∀ h, F h → rdI v l h) : CallsS Try.prog 22 #[v] F [] (fun r Ps => r.oneCell' = true ∧ Ps = [rowI 33 r l]) := by
  refine callsS_enter Try.func22 rfl Try.ntmps22 (by simp) (fun E => ?_)
  refine W_seq ?_
  refine W.pre (K' := [(0, _)]) (L' := [(0, _)]) ?_ ⟨rfl, trivial⟩ ⟨rfl, trivial⟩
  refine W_fact (r := 0) rfl (fun h hp => rdP_nil (hF h hp)) (fun hnil => ?_)
  refine W_regL (WL_pure rfl rfl (by decide) (Pu_assign rfl rfl) (WL_nil (X_then ?_)))
  refine W_seq ?_
  refine W_seq ?_
  refine W.pre (K' := [(0, _), (2, _)]) (L' := [(0, _)]) ?_ ⟨rfl, ⟨rfl, trivial⟩⟩ ⟨rfl, trivial⟩
  refine W_regL (WL_pure rfl rfl (by decide) (Pu_move rfl rfl) (WL_pure rfl rfl (by decide) (Pu_eqNil (r := 0) rfl Try.underlying37 rfl rfl rfl hF) (WL_nil (X_then ?_))))
  refine W_cond rfl (fun hc4 => ?_) (fun hc4 => ?_)
  ·
    refine W_seq ?_
    refine W.pre (K' := [(0, _), (2, _), (4, _)]) (L' := [(0, _)]) ?_ ⟨rfl, ⟨rfl, ⟨rfl, trivial⟩⟩⟩ ⟨rfl, trivial⟩
    refine W_regL (WL_pure rfl rfl (by decide) (Pu_assign rfl rfl) (WL_nil (X_then ?_)))
    refine W_ret (X_then_ret ?_)
    refine X_nilRow 9900 33 32 ?_
    obtain rfl : l = [] := List.length_eq_zero_iff.1 (hnil hc4)
    exact X_ret [9900] (Ps := [_]) (res1 Try.results22 rfl) rfl (by decide) ⟨rfl, congrArg (· :: []) (rowI_of [] rfl rfl)⟩
  ·
    refine W_skip (X_then ?_)
    refine W_seq ?_
    refine W.pre (K' := [(0, _), (2, _), (4, _)]) (L' := [(0, _)]) ?_ ⟨rfl, ⟨rfl, ⟨rfl, trivial⟩⟩⟩ ⟨rfl, trivial⟩
    refine W_regL (WL_cons rfl rfl (by decide) (OpT_buildRows (r := 101) [] rfl rfl Try.runUnderlying37 Try.sizeOf33 Try.zeroValue33 rfl (by decide) rfl (by decide) (by simp) rfl (fun v5 => (WL_pure rfl rfl (by decide) (Pu_move rfl rfl) (WL_cons rfl rfl (by decide) (OpT_append (r := 101) (r2 := 0) (k1 := 0) rfl Try.underlying37 TI.hi33 TI.hz33 TI.hs33 TI.hby33 TI.hzs33 (by decide) rfl rfl rfl rfl hF (idsC_oneCell _) (by unfold maxLen; omega) (by omega) (fun v7 => ?_)))))))
    refine (WL_pure rfl rfl (by decide) (Pu_assign rfl rfl) (WL_nil (X_then ?_)))
    refine W_ret ?_
    refine X_fact (r := 101) rfl (fun h hp => rd_one (rowP_rd hp)) (fun hone => ?_)
    exact X_ret [101] (Ps := [_]) (res1 Try.results22 rfl) rfl (by decide) ⟨hone, congrArg (· :: []) (rowI_of l (by simp) (by simp))⟩
theorem sz_id {y : List UInt8} (h : y.length = 32) : ∀ w, (sizeOf 33).run Try.prog w = .ok (Value.agg (bs y).toArray).cells.size w := fun w => by
  have e : (Value.agg (bs y).toArray).cells.size = 32 := by show (bs y).toArray.size = 32; simp [bs_length, h]
  rw [e]
  exact Try.sizeOf33 w
theorem reverse_spec (e : TypeId) (he : e = 33) (v : Value) (l : List (List UInt8)) (hl : Ids l) (hm : l.length ≤ maxLen) (F : HP) : CallsS Try.prog 23 #[v] F [rowI e v l] (fun r Ps => r = .tuple #[] ∧ Ps = [rowI e v l.reverse]) := by
  subst he
  unfold rowI
  unfold maxLen at hm
  refine callsS_enter Try.func23 rfl Try.ntmps23 (by simp) (fun E => ?_)
  refine W_seq ?_
  refine W.pre (K' := [(0, _)]) (L' := [(0, _), (1, _)]) ?_ ⟨rfl, trivial⟩ ⟨rfl, ⟨rfl, trivial⟩⟩
  refine W_regL (WL_pure rfl rfl (by decide) (Pu_move rfl rfl) (WL_pure rfl rfl (by decide) (Pu_len (r := 1) rfl Try.runUnderlying37 rfl rfl (fun _ h => rowP_rd h)) (WL_pure rfl rfl (by decide) (Pu_bin rfl rfl rfl (run_sub _ _ _ _ _ (by omega))) (WL_pure rfl rfl (by decide) (Pu_assign rfl rfl) (WL_pure rfl rfl (by decide) (Pu_assign rfl rfl) (WL_nil (X_then ?_)))))))
  refine W_block ?_
  refine W_loop (α := Nat) (fun i => [(0, v), (2, .int .i64 (i : Int)), (3, .int .i64 ((l.length : Int) - 1 - (i : Int)))]) (fun i => [(0, F), (1, rowI 33 v (revTo l i))]) (fun i => 2 * i ≤ l.length + 1) (fun i => l.length - i) (0) (by omega) ⟨rfl, rfl, lookV_eq rfl (int_eq (by omega)), trivial⟩ ⟨rfl, look_eq rfl (by rw [revTo_zero]; exact rowI_of l rfl rfl), trivial⟩ (fun x hx => ?_)
  unfold rowI
  have hrl := revTo_length l x
  have hri := revTo_ids hl x
  refine W_seq ?_
  refine W_seq ?_
  refine W.pre (K' := [(0, _), (2, _), (3, _)]) (L' := [(0, _), (1, _)]) ?_ ⟨rfl, ⟨rfl, ⟨rfl, trivial⟩⟩⟩ ⟨rfl, ⟨rfl, trivial⟩⟩
  refine W_regL (WL_pure rfl rfl (by decide) (Pu_move rfl rfl) (WL_pure rfl rfl (by decide) (Pu_move rfl rfl) (WL_pure rfl rfl (by decide) (Pu_bin rfl rfl rfl (run_lss _ _ _ _ _ _)) (WL_nil (X_then ?_)))))
  refine W_cond rfl (fun hc9 => ?_) (fun hc9 => ?_)
  ·
    have hlt : 2 * x + 1 < l.length := by have := of_decide_eq_true hc9; omega
    have ej : ((l.length : Int) - 1 - (x : Int)).toNat = l.length - 1 - x := by omega
    have hi1 := hri.get (k := x) (by omega)
    have hi2 := hri.get (k := l.length - 1 - x) (by omega)
    refine W_skip (X_then ?_)
    refine W_seq ?_
    refine W_block ?_
    refine W.pre (K' := [(0, _), (2, _), (3, _), (9, _)]) (L' := [(0, _), (1, _)]) ?_ ⟨rfl, ⟨rfl, ⟨rfl, ⟨rfl, trivial⟩⟩⟩⟩ ⟨rfl, ⟨rfl, trivial⟩⟩
    refine W_draw (N := 16) (by kernel_rfl) rfl [(0, _)] ⟨rfl, trivial⟩ ?_
    refine (AH_take 0 rfl (by kernel_rfl) (by kernel_rfl) (by kernel_rfl) rfl rfl (by decide) (Pu_move rfl rfl) (AH_take 1 rfl (by kernel_rfl) (by kernel_rfl) (by kernel_rfl) rfl rfl (by decide) (Pu_move rfl rfl) (AH_take 2 rfl (by kernel_rfl) (by kernel_rfl) (by kernel_rfl) rfl rfl (by decide) (Pu_move rfl rfl) (AH_take 3 rfl (by kernel_rfl) (by kernel_rfl) (by kernel_rfl) rfl rfl (by decide) (Pu_move rfl rfl) (AH_take 4 rfl (by kernel_rfl) (by kernel_rfl) (by kernel_rfl) rfl rfl (by decide) (Pu_move rfl rfl) (AH_take 5 rfl (by kernel_rfl) (by kernel_rfl) (by kernel_rfl) rfl rfl (by decide) (Pu_move rfl rfl) (AH_take 8 rfl (by kernel_rfl) (by kernel_rfl) (by kernel_rfl) rfl rfl (by decide) (Pu_move rfl rfl) (AH_take 9 rfl (by kernel_rfl) (by kernel_rfl) (by kernel_rfl) rfl rfl (by decide) (Pu_move rfl rfl) (AH_ready [6, 10] (by kernel_rfl) (by decide) ?_)))))))))
    refine AHs_cons rfl rfl rfl (by decide) (OpT_run (Pu_idxS (r := 1) rfl Try.runUnderlying37 Try.sizeOf33 rfl rfl rfl (fun _ h => rowP_rd h) (by omega)) ⟨⟨rfl, trivial⟩, ?_⟩) ?_
    ·
      refine (AH_ready [7, 10] (by kernel_rfl) (by decide) ?_)
      refine AHs_cons rfl rfl rfl (by decide) (OpT_run (Pu_loadSN (r := 1) rfl Try.isAgg33 Try.sizeOf33 rfl rfl (fun _ h => rowP_rd h) ((bs_length _).trans hi2) (by decide) (by rw [ej]; exact idsC_get (k := l.length - 1 - x) hri (by omega))) ⟨⟨rfl, trivial⟩, ?_⟩) ?_
      ·
        refine (AH_ready [10] (by kernel_rfl) (by decide) ?_)
        refine AHs_cons rfl rfl rfl (by decide) (OpT_run (Pu_idxS (r := 1) rfl Try.runUnderlying37 Try.sizeOf33 rfl rfl rfl (fun _ h => rowP_rd h) (by omega)) ⟨⟨rfl, trivial⟩, ?_⟩) ?_
        ·
          refine (AH_ready [11] (by kernel_rfl) (by decide) ?_)
          refine AHs_cons rfl rfl rfl (by decide) (OpT_run (Pu_loadSN (r := 1) rfl Try.isAgg33 Try.sizeOf33 rfl rfl (fun _ h => rowP_rd h) ((bs_length _).trans hi1) (by decide) (idsC_get (k := x) hri (by omega))) ⟨⟨rfl, trivial⟩, ?_⟩) ?_
          ·
            refine (AH_ready [12] (by kernel_rfl) (by decide) ?_)
            refine AHs_cons rfl rfl rfl (by decide) (OpT_run (Pu_idxS (r := 1) rfl Try.runUnderlying37 Try.sizeOf33 rfl rfl rfl (fun _ h => rowP_rd h) (by omega)) ⟨⟨rfl, trivial⟩, ?_⟩) ?_
            ·
              refine (AH_ready [13] (by kernel_rfl) (by decide) ?_)
              refine AHs_cons0 rfl rfl rfl (OpT_storeS (r := 1) rfl (sz_id hi2) rfl rfl rfl (show 0 < (bs ((revTo l x).getD (l.length - 1 - x) [])).length by rw [bs_length, hi2]; decide) (by rw [idsC_length hri, hrl]; show _ + (bs ((revTo l x).getD (l.length - 1 - x) [])).length ≤ _; rw [bs_length, hi2]; omega) (bs_one _) (show over (idsC (revTo l x)) (x * 32) (bs ((revTo l x).getD (l.length - 1 - x) [])) = _ from idsC_set hri (by omega) hi2) ?_) ?_
              ·
                refine ⟨⟨rfl, trivial⟩, ?_⟩
                refine (AH_ready [14] (by kernel_rfl) (by decide) ?_)
                refine AHs_cons rfl rfl rfl (by decide) (OpT_run (Pu_idxS (r := 1) rfl Try.runUnderlying37 Try.sizeOf33 rfl rfl rfl (fun _ h => rowP_rd h) (by omega)) ⟨⟨rfl, trivial⟩, ?_⟩) ?_
                ·
                  refine (AH_ready [15] (by kernel_rfl) (by decide) ?_)
                  refine AHs_cons0 rfl rfl rfl (OpT_storeS (r := 1) rfl (sz_id hi1) rfl rfl rfl (show 0 < (bs ((revTo l x).getD x [])).length by rw [bs_length, hi1]; decide) (by rw [ej, idsC_length (hri.set hi2), List.length_set, hrl]; show _ + (bs ((revTo l x).getD x [])).length ≤ _; rw [bs_length, hi1]; omega) (bs_one _) ((congrArg (fun q => over (idsC ((revTo l x).set x ((revTo l x).getD (l.length - 1 - x) []))) (q * 32) (bs ((revTo l x).getD x []))) ej).trans (idsC_set (hri.set hi2) (by rw [List.length_set]; omega) hi1)) ?_) ?_
                  ·
                    refine ⟨⟨rfl, trivial⟩, ?_⟩
                    refine (AH_done (by kernel_rfl) (X_block (X_then ?_)))
                    refine W.pre (K' := [(0, _), (2, _), (3, _), (9, _)]) (L' := [(0, _), (1, _)]) ?_ ⟨rfl, ⟨rfl, ⟨rfl, ⟨rfl, trivial⟩⟩⟩⟩ ⟨rfl, ⟨rfl, trivial⟩⟩
                    refine W_regL (WL_pure rfl rfl (by decide) (Pu_move rfl rfl) (WL_pure rfl rfl (by decide) (Pu_bin rfl rfl rfl (run_add _ _ _ _ _ (by omega))) (WL_pure rfl rfl (by decide) (Pu_move rfl rfl) (WL_pure rfl rfl (by decide) (Pu_bin rfl rfl rfl (run_sub _ _ _ _ _ (by omega))) (WL_pure rfl rfl (by decide) (Pu_assign rfl rfl) (WL_pure rfl rfl (by decide) (Pu_assign rfl rfl) (WL_nil ?_)))))))
                    exact X_round (x + 1) (by omega) (by omega) ⟨rfl, rfl, lookV_eq rfl (int_eq (by omega)), trivial⟩ ⟨rfl, look_eq rfl (by rw [revTo_swap l hlt]; exact rowI_of (revTo l (x + 1)) (by rw [revTo_length, revTo_length]) rfl), trivial⟩
                  exact AHs_nil
                exact AHs_nil
              exact AHs_nil
            exact AHs_nil
          exact AHs_nil
        exact AHs_nil
      refine AHs_cons rfl rfl rfl (by decide) (OpT_run (Pu_idxS (r := 1) rfl Try.runUnderlying37 Try.sizeOf33 rfl rfl rfl (fun _ h => rowP_rd h) (by omega)) ⟨⟨rfl, trivial⟩, ?_⟩) ?_
      ·
        refine (AH_ready [7, 11] (by kernel_rfl) (by decide) ?_)
        refine AHs_cons rfl rfl rfl (by decide) (OpT_run (Pu_loadSN (r := 1) rfl Try.isAgg33 Try.sizeOf33 rfl rfl (fun _ h => rowP_rd h) ((bs_length _).trans hi2) (by decide) (by rw [ej]; exact idsC_get (k := l.length - 1 - x) hri (by omega))) ⟨⟨rfl, trivial⟩, ?_⟩) ?_
        ·
          refine (AH_ready [11] (by kernel_rfl) (by decide) ?_)
          refine AHs_cons rfl rfl rfl (by decide) (OpT_run (Pu_loadSN (r := 1) rfl Try.isAgg33 Try.sizeOf33 rfl rfl (fun _ h => rowP_rd h) ((bs_length _).trans hi1) (by decide) (idsC_get (k := x) hri (by omega))) ⟨⟨rfl, trivial⟩, ?_⟩) ?_
          ·
            refine (AH_ready [12] (by kernel_rfl) (by decide) ?_)
            refine AHs_cons rfl rfl rfl (by decide) (OpT_run (Pu_idxS (r := 1) rfl Try.runUnderlying37 Try.sizeOf33 rfl rfl rfl (fun _ h => rowP_rd h) (by omega)) ⟨⟨rfl, trivial⟩, ?_⟩) ?_
            ·
              refine (AH_ready [13] (by kernel_rfl) (by decide) ?_)
              refine AHs_cons0 rfl rfl rfl (OpT_storeS (r := 1) rfl (sz_id hi2) rfl rfl rfl (show 0 < (bs ((revTo l x).getD (l.length - 1 - x) [])).length by rw [bs_length, hi2]; decide) (by rw [idsC_length hri, hrl]; show _ + (bs ((revTo l x).getD (l.length - 1 - x) [])).length ≤ _; rw [bs_length, hi2]; omega) (bs_one _) (show over (idsC (revTo l x)) (x * 32) (bs ((revTo l x).getD (l.length - 1 - x) [])) = _ from idsC_set hri (by omega) hi2) ?_) ?_
              ·
                refine ⟨⟨rfl, trivial⟩, ?_⟩
                refine (AH_ready [14] (by kernel_rfl) (by decide) ?_)
                refine AHs_cons rfl rfl rfl (by decide) (OpT_run (Pu_idxS (r := 1) rfl Try.runUnderlying37 Try.sizeOf33 rfl rfl rfl (fun _ h => rowP_rd h) (by omega)) ⟨⟨rfl, trivial⟩, ?_⟩) ?_
                ·
                  refine (AH_ready [15] (by kernel_rfl) (by decide) ?_)
                  refine AHs_cons0 rfl rfl rfl (OpT_storeS (r := 1) rfl (sz_id hi1) rfl rfl rfl (show 0 < (bs ((revTo l x).getD x [])).length by rw [bs_length, hi1]; decide) (by rw [ej, idsC_length (hri.set hi2), List.length_set, hrl]; show _ + (bs ((revTo l x).getD x [])).length ≤ _; rw [bs_length, hi1]; omega) (bs_one _) ((congrArg (fun q => over (idsC ((revTo l x).set x ((revTo l x).getD (l.length - 1 - x) []))) (q * 32) (bs ((revTo l x).getD x []))) ej).trans (idsC_set (hri.set hi2) (by rw [List.length_set]; omega) hi1)) ?_) ?_
                  ·
                    refine ⟨⟨rfl, trivial⟩, ?_⟩
                    refine (AH_done (by kernel_rfl) (X_block (X_then ?_)))
                    refine W.pre (K' := [(0, _), (2, _), (3, _), (9, _)]) (L' := [(0, _), (1, _)]) ?_ ⟨rfl, ⟨rfl, ⟨rfl, ⟨rfl, trivial⟩⟩⟩⟩ ⟨rfl, ⟨rfl, trivial⟩⟩
                    refine W_regL (WL_pure rfl rfl (by decide) (Pu_move rfl rfl) (WL_pure rfl rfl (by decide) (Pu_bin rfl rfl rfl (run_add _ _ _ _ _ (by omega))) (WL_pure rfl rfl (by decide) (Pu_move rfl rfl) (WL_pure rfl rfl (by decide) (Pu_bin rfl rfl rfl (run_sub _ _ _ _ _ (by omega))) (WL_pure rfl rfl (by decide) (Pu_assign rfl rfl) (WL_pure rfl rfl (by decide) (Pu_assign rfl rfl) (WL_nil ?_)))))))
                    exact X_round (x + 1) (by omega) (by omega) ⟨rfl, rfl, lookV_eq rfl (int_eq (by omega)), trivial⟩ ⟨rfl, look_eq rfl (by rw [revTo_swap l hlt]; exact rowI_of (revTo l (x + 1)) (by rw [revTo_length, revTo_length]) rfl), trivial⟩
                  exact AHs_nil
                exact AHs_nil
              exact AHs_nil
            exact AHs_nil
          exact AHs_nil
        refine AHs_cons rfl rfl rfl (by decide) (OpT_run (Pu_loadSN (r := 1) rfl Try.isAgg33 Try.sizeOf33 rfl rfl (fun _ h => rowP_rd h) ((bs_length _).trans hi1) (by decide) (idsC_get (k := x) hri (by omega))) ⟨⟨rfl, trivial⟩, ?_⟩) ?_
        ·
          refine (AH_ready [7] (by kernel_rfl) (by decide) ?_)
          refine AHs_cons rfl rfl rfl (by decide) (OpT_run (Pu_loadSN (r := 1) rfl Try.isAgg33 Try.sizeOf33 rfl rfl (fun _ h => rowP_rd h) ((bs_length _).trans hi2) (by decide) (by rw [ej]; exact idsC_get (k := l.length - 1 - x) hri (by omega))) ⟨⟨rfl, trivial⟩, ?_⟩) ?_
          ·
            refine (AH_ready [12] (by kernel_rfl) (by decide) ?_)
            refine AHs_cons rfl rfl rfl (by decide) (OpT_run (Pu_idxS (r := 1) rfl Try.runUnderlying37 Try.sizeOf33 rfl rfl rfl (fun _ h => rowP_rd h) (by omega)) ⟨⟨rfl, trivial⟩, ?_⟩) ?_
            ·
              refine (AH_ready [13] (by kernel_rfl) (by decide) ?_)
              refine AHs_cons0 rfl rfl rfl (OpT_storeS (r := 1) rfl (sz_id hi2) rfl rfl rfl (show 0 < (bs ((revTo l x).getD (l.length - 1 - x) [])).length by rw [bs_length, hi2]; decide) (by rw [idsC_length hri, hrl]; show _ + (bs ((revTo l x).getD (l.length - 1 - x) [])).length ≤ _; rw [bs_length, hi2]; omega) (bs_one _) (show over (idsC (revTo l x)) (x * 32) (bs ((revTo l x).getD (l.length - 1 - x) [])) = _ from idsC_set hri (by omega) hi2) ?_) ?_
              ·
                refine ⟨⟨rfl, trivial⟩, ?_⟩
                refine (AH_ready [14] (by kernel_rfl) (by decide) ?_)
                refine AHs_cons rfl rfl rfl (by decide) (OpT_run (Pu_idxS (r := 1) rfl Try.runUnderlying37 Try.sizeOf33 rfl rfl rfl (fun _ h => rowP_rd h) (by omega)) ⟨⟨rfl, trivial⟩, ?_⟩) ?_
                ·
                  refine (AH_ready [15] (by kernel_rfl) (by decide) ?_)
                  refine AHs_cons0 rfl rfl rfl (OpT_storeS (r := 1) rfl (sz_id hi1) rfl rfl rfl (show 0 < (bs ((revTo l x).getD x [])).length by rw [bs_length, hi1]; decide) (by rw [ej, idsC_length (hri.set hi2), List.length_set, hrl]; show _ + (bs ((revTo l x).getD x [])).length ≤ _; rw [bs_length, hi1]; omega) (bs_one _) ((congrArg (fun q => over (idsC ((revTo l x).set x ((revTo l x).getD (l.length - 1 - x) []))) (q * 32) (bs ((revTo l x).getD x []))) ej).trans (idsC_set (hri.set hi2) (by rw [List.length_set]; omega) hi1)) ?_) ?_
                  ·
                    refine ⟨⟨rfl, trivial⟩, ?_⟩
                    refine (AH_done (by kernel_rfl) (X_block (X_then ?_)))
                    refine W.pre (K' := [(0, _), (2, _), (3, _), (9, _)]) (L' := [(0, _), (1, _)]) ?_ ⟨rfl, ⟨rfl, ⟨rfl, ⟨rfl, trivial⟩⟩⟩⟩ ⟨rfl, ⟨rfl, trivial⟩⟩
                    refine W_regL (WL_pure rfl rfl (by decide) (Pu_move rfl rfl) (WL_pure rfl rfl (by decide) (Pu_bin rfl rfl rfl (run_add _ _ _ _ _ (by omega))) (WL_pure rfl rfl (by decide) (Pu_move rfl rfl) (WL_pure rfl rfl (by decide) (Pu_bin rfl rfl rfl (run_sub _ _ _ _ _ (by omega))) (WL_pure rfl rfl (by decide) (Pu_assign rfl rfl) (WL_pure rfl rfl (by decide) (Pu_assign rfl rfl) (WL_nil ?_)))))))
                    exact X_round (x + 1) (by omega) (by omega) ⟨rfl, rfl, lookV_eq rfl (int_eq (by omega)), trivial⟩ ⟨rfl, look_eq rfl (by rw [revTo_swap l hlt]; exact rowI_of (revTo l (x + 1)) (by rw [revTo_length, revTo_length]) rfl), trivial⟩
                  exact AHs_nil
                exact AHs_nil
              exact AHs_nil
            exact AHs_nil
          exact AHs_nil
        exact AHs_nil
      exact AHs_nil
    refine AHs_cons rfl rfl rfl (by decide) (OpT_run (Pu_idxS (r := 1) rfl Try.runUnderlying37 Try.sizeOf33 rfl rfl rfl (fun _ h => rowP_rd h) (by omega)) ⟨⟨rfl, trivial⟩, ?_⟩) ?_
    ·
      refine (AH_ready [6, 11] (by kernel_rfl) (by decide) ?_)
      refine AHs_cons rfl rfl rfl (by decide) (OpT_run (Pu_idxS (r := 1) rfl Try.runUnderlying37 Try.sizeOf33 rfl rfl rfl (fun _ h => rowP_rd h) (by omega)) ⟨⟨rfl, trivial⟩, ?_⟩) ?_
      ·
        refine (AH_ready [7, 11] (by kernel_rfl) (by decide) ?_)
        refine AHs_cons rfl rfl rfl (by decide) (OpT_run (Pu_loadSN (r := 1) rfl Try.isAgg33 Try.sizeOf33 rfl rfl (fun _ h => rowP_rd h) ((bs_length _).trans hi2) (by decide) (by rw [ej]; exact idsC_get (k := l.length - 1 - x) hri (by omega))) ⟨⟨rfl, trivial⟩, ?_⟩) ?_
        ·
          refine (AH_ready [11] (by kernel_rfl) (by decide) ?_)
          refine AHs_cons rfl rfl rfl (by decide) (OpT_run (Pu_loadSN (r := 1) rfl Try.isAgg33 Try.sizeOf33 rfl rfl (fun _ h => rowP_rd h) ((bs_length _).trans hi1) (by decide) (idsC_get (k := x) hri (by omega))) ⟨⟨rfl, trivial⟩, ?_⟩) ?_
          ·
            refine (AH_ready [12] (by kernel_rfl) (by decide) ?_)
            refine AHs_cons rfl rfl rfl (by decide) (OpT_run (Pu_idxS (r := 1) rfl Try.runUnderlying37 Try.sizeOf33 rfl rfl rfl (fun _ h => rowP_rd h) (by omega)) ⟨⟨rfl, trivial⟩, ?_⟩) ?_
            ·
              refine (AH_ready [13] (by kernel_rfl) (by decide) ?_)
              refine AHs_cons0 rfl rfl rfl (OpT_storeS (r := 1) rfl (sz_id hi2) rfl rfl rfl (show 0 < (bs ((revTo l x).getD (l.length - 1 - x) [])).length by rw [bs_length, hi2]; decide) (by rw [idsC_length hri, hrl]; show _ + (bs ((revTo l x).getD (l.length - 1 - x) [])).length ≤ _; rw [bs_length, hi2]; omega) (bs_one _) (show over (idsC (revTo l x)) (x * 32) (bs ((revTo l x).getD (l.length - 1 - x) [])) = _ from idsC_set hri (by omega) hi2) ?_) ?_
              ·
                refine ⟨⟨rfl, trivial⟩, ?_⟩
                refine (AH_ready [14] (by kernel_rfl) (by decide) ?_)
                refine AHs_cons rfl rfl rfl (by decide) (OpT_run (Pu_idxS (r := 1) rfl Try.runUnderlying37 Try.sizeOf33 rfl rfl rfl (fun _ h => rowP_rd h) (by omega)) ⟨⟨rfl, trivial⟩, ?_⟩) ?_
                ·
                  refine (AH_ready [15] (by kernel_rfl) (by decide) ?_)
                  refine AHs_cons0 rfl rfl rfl (OpT_storeS (r := 1) rfl (sz_id hi1) rfl rfl rfl (show 0 < (bs ((revTo l x).getD x [])).length by rw [bs_length, hi1]; decide) (by rw [ej, idsC_length (hri.set hi2), List.length_set, hrl]; show _ + (bs ((revTo l x).getD x [])).length ≤ _; rw [bs_length, hi1]; omega) (bs_one _) ((congrArg (fun q => over (idsC ((revTo l x).set x ((revTo l x).getD (l.length - 1 - x) []))) (q * 32) (bs ((revTo l x).getD x []))) ej).trans (idsC_set (hri.set hi2) (by rw [List.length_set]; omega) hi1)) ?_) ?_
                  ·
                    refine ⟨⟨rfl, trivial⟩, ?_⟩
                    refine (AH_done (by kernel_rfl) (X_block (X_then ?_)))
                    refine W.pre (K' := [(0, _), (2, _), (3, _), (9, _)]) (L' := [(0, _), (1, _)]) ?_ ⟨rfl, ⟨rfl, ⟨rfl, ⟨rfl, trivial⟩⟩⟩⟩ ⟨rfl, ⟨rfl, trivial⟩⟩
                    refine W_regL (WL_pure rfl rfl (by decide) (Pu_move rfl rfl) (WL_pure rfl rfl (by decide) (Pu_bin rfl rfl rfl (run_add _ _ _ _ _ (by omega))) (WL_pure rfl rfl (by decide) (Pu_move rfl rfl) (WL_pure rfl rfl (by decide) (Pu_bin rfl rfl rfl (run_sub _ _ _ _ _ (by omega))) (WL_pure rfl rfl (by decide) (Pu_assign rfl rfl) (WL_pure rfl rfl (by decide) (Pu_assign rfl rfl) (WL_nil ?_)))))))
                    exact X_round (x + 1) (by omega) (by omega) ⟨rfl, rfl, lookV_eq rfl (int_eq (by omega)), trivial⟩ ⟨rfl, look_eq rfl (by rw [revTo_swap l hlt]; exact rowI_of (revTo l (x + 1)) (by rw [revTo_length, revTo_length]) rfl), trivial⟩
                  exact AHs_nil
                exact AHs_nil
              exact AHs_nil
            exact AHs_nil
          exact AHs_nil
        refine AHs_cons rfl rfl rfl (by decide) (OpT_run (Pu_loadSN (r := 1) rfl Try.isAgg33 Try.sizeOf33 rfl rfl (fun _ h => rowP_rd h) ((bs_length _).trans hi1) (by decide) (idsC_get (k := x) hri (by omega))) ⟨⟨rfl, trivial⟩, ?_⟩) ?_
        ·
          refine (AH_ready [7] (by kernel_rfl) (by decide) ?_)
          refine AHs_cons rfl rfl rfl (by decide) (OpT_run (Pu_loadSN (r := 1) rfl Try.isAgg33 Try.sizeOf33 rfl rfl (fun _ h => rowP_rd h) ((bs_length _).trans hi2) (by decide) (by rw [ej]; exact idsC_get (k := l.length - 1 - x) hri (by omega))) ⟨⟨rfl, trivial⟩, ?_⟩) ?_
          ·
            refine (AH_ready [12] (by kernel_rfl) (by decide) ?_)
            refine AHs_cons rfl rfl rfl (by decide) (OpT_run (Pu_idxS (r := 1) rfl Try.runUnderlying37 Try.sizeOf33 rfl rfl rfl (fun _ h => rowP_rd h) (by omega)) ⟨⟨rfl, trivial⟩, ?_⟩) ?_
            ·
              refine (AH_ready [13] (by kernel_rfl) (by decide) ?_)
              refine AHs_cons0 rfl rfl rfl (OpT_storeS (r := 1) rfl (sz_id hi2) rfl rfl rfl (show 0 < (bs ((revTo l x).getD (l.length - 1 - x) [])).length by rw [bs_length, hi2]; decide) (by rw [idsC_length hri, hrl]; show _ + (bs ((revTo l x).getD (l.length - 1 - x) [])).length ≤ _; rw [bs_length, hi2]; omega) (bs_one _) (show over (idsC (revTo l x)) (x * 32) (bs ((revTo l x).getD (l.length - 1 - x) [])) = _ from idsC_set hri (by omega) hi2) ?_) ?_
              ·
                refine ⟨⟨rfl, trivial⟩, ?_⟩
                refine (AH_ready [14] (by kernel_rfl) (by decide) ?_)
                refine AHs_cons rfl rfl rfl (by decide) (OpT_run (Pu_idxS (r := 1) rfl Try.runUnderlying37 Try.sizeOf33 rfl rfl rfl (fun _ h => rowP_rd h) (by omega)) ⟨⟨rfl, trivial⟩, ?_⟩) ?_
                ·
                  refine (AH_ready [15] (by kernel_rfl) (by decide) ?_)
                  refine AHs_cons0 rfl rfl rfl (OpT_storeS (r := 1) rfl (sz_id hi1) rfl rfl rfl (show 0 < (bs ((revTo l x).getD x [])).length by rw [bs_length, hi1]; decide) (by rw [ej, idsC_length (hri.set hi2), List.length_set, hrl]; show _ + (bs ((revTo l x).getD x [])).length ≤ _; rw [bs_length, hi1]; omega) (bs_one _) ((congrArg (fun q => over (idsC ((revTo l x).set x ((revTo l x).getD (l.length - 1 - x) []))) (q * 32) (bs ((revTo l x).getD x []))) ej).trans (idsC_set (hri.set hi2) (by rw [List.length_set]; omega) hi1)) ?_) ?_
                  ·
                    refine ⟨⟨rfl, trivial⟩, ?_⟩
                    refine (AH_done (by kernel_rfl) (X_block (X_then ?_)))
                    refine W.pre (K' := [(0, _), (2, _), (3, _), (9, _)]) (L' := [(0, _), (1, _)]) ?_ ⟨rfl, ⟨rfl, ⟨rfl, ⟨rfl, trivial⟩⟩⟩⟩ ⟨rfl, ⟨rfl, trivial⟩⟩
                    refine W_regL (WL_pure rfl rfl (by decide) (Pu_move rfl rfl) (WL_pure rfl rfl (by decide) (Pu_bin rfl rfl rfl (run_add _ _ _ _ _ (by omega))) (WL_pure rfl rfl (by decide) (Pu_move rfl rfl) (WL_pure rfl rfl (by decide) (Pu_bin rfl rfl rfl (run_sub _ _ _ _ _ (by omega))) (WL_pure rfl rfl (by decide) (Pu_assign rfl rfl) (WL_pure rfl rfl (by decide) (Pu_assign rfl rfl) (WL_nil ?_)))))))
                    exact X_round (x + 1) (by omega) (by omega) ⟨rfl, rfl, lookV_eq rfl (int_eq (by omega)), trivial⟩ ⟨rfl, look_eq rfl (by rw [revTo_swap l hlt]; exact rowI_of (revTo l (x + 1)) (by rw [revTo_length, revTo_length]) rfl), trivial⟩
                  exact AHs_nil
                exact AHs_nil
              exact AHs_nil
            exact AHs_nil
          exact AHs_nil
        exact AHs_nil
      refine AHs_cons rfl rfl rfl (by decide) (OpT_run (Pu_loadSN (r := 1) rfl Try.isAgg33 Try.sizeOf33 rfl rfl (fun _ h => rowP_rd h) ((bs_length _).trans hi1) (by decide) (idsC_get (k := x) hri (by omega))) ⟨⟨rfl, trivial⟩, ?_⟩) ?_
      ·
        refine (AH_ready [6] (by kernel_rfl) (by decide) ?_)
        refine AHs_cons rfl rfl rfl (by decide) (OpT_run (Pu_idxS (r := 1) rfl Try.runUnderlying37 Try.sizeOf33 rfl rfl rfl (fun _ h => rowP_rd h) (by omega)) ⟨⟨rfl, trivial⟩, ?_⟩) ?_
        ·
          refine (AH_ready [7] (by kernel_rfl) (by decide) ?_)
          refine AHs_cons rfl rfl rfl (by decide) (OpT_run (Pu_loadSN (r := 1) rfl Try.isAgg33 Try.sizeOf33 rfl rfl (fun _ h => rowP_rd h) ((bs_length _).trans hi2) (by decide) (by rw [ej]; exact idsC_get (k := l.length - 1 - x) hri (by omega))) ⟨⟨rfl, trivial⟩, ?_⟩) ?_
          ·
            refine (AH_ready [12] (by kernel_rfl) (by decide) ?_)
            refine AHs_cons rfl rfl rfl (by decide) (OpT_run (Pu_idxS (r := 1) rfl Try.runUnderlying37 Try.sizeOf33 rfl rfl rfl (fun _ h => rowP_rd h) (by omega)) ⟨⟨rfl, trivial⟩, ?_⟩) ?_
            ·
              refine (AH_ready [13] (by kernel_rfl) (by decide) ?_)
              refine AHs_cons0 rfl rfl rfl (OpT_storeS (r := 1) rfl (sz_id hi2) rfl rfl rfl (show 0 < (bs ((revTo l x).getD (l.length - 1 - x) [])).length by rw [bs_length, hi2]; decide) (by rw [idsC_length hri, hrl]; show _ + (bs ((revTo l x).getD (l.length - 1 - x) [])).length ≤ _; rw [bs_length, hi2]; omega) (bs_one _) (show over (idsC (revTo l x)) (x * 32) (bs ((revTo l x).getD (l.length - 1 - x) [])) = _ from idsC_set hri (by omega) hi2) ?_) ?_
              ·
                refine ⟨⟨rfl, trivial⟩, ?_⟩
                refine (AH_ready [14] (by kernel_rfl) (by decide) ?_)
                refine AHs_cons rfl rfl rfl (by decide) (OpT_run (Pu_idxS (r := 1) rfl Try.runUnderlying37 Try.sizeOf33 rfl rfl rfl (fun _ h => rowP_rd h) (by omega)) ⟨⟨rfl, trivial⟩, ?_⟩) ?_
                ·
                  refine (AH_ready [15] (by kernel_rfl) (by decide) ?_)
                  refine AHs_cons0 rfl rfl rfl (OpT_storeS (r := 1) rfl (sz_id hi1) rfl rfl rfl (show 0 < (bs ((revTo l x).getD x [])).length by rw [bs_length, hi1]; decide) (by rw [ej, idsC_length (hri.set hi2), List.length_set, hrl]; show _ + (bs ((revTo l x).getD x [])).length ≤ _; rw [bs_length, hi1]; omega) (bs_one _) ((congrArg (fun q => over (idsC ((revTo l x).set x ((revTo l x).getD (l.length - 1 - x) []))) (q * 32) (bs ((revTo l x).getD x []))) ej).trans (idsC_set (hri.set hi2) (by rw [List.length_set]; omega) hi1)) ?_) ?_
                  ·
                    refine ⟨⟨rfl, trivial⟩, ?_⟩
                    refine (AH_done (by kernel_rfl) (X_block (X_then ?_)))
                    refine W.pre (K' := [(0, _), (2, _), (3, _), (9, _)]) (L' := [(0, _), (1, _)]) ?_ ⟨rfl, ⟨rfl, ⟨rfl, ⟨rfl, trivial⟩⟩⟩⟩ ⟨rfl, ⟨rfl, trivial⟩⟩
                    refine W_regL (WL_pure rfl rfl (by decide) (Pu_move rfl rfl) (WL_pure rfl rfl (by decide) (Pu_bin rfl rfl rfl (run_add _ _ _ _ _ (by omega))) (WL_pure rfl rfl (by decide) (Pu_move rfl rfl) (WL_pure rfl rfl (by decide) (Pu_bin rfl rfl rfl (run_sub _ _ _ _ _ (by omega))) (WL_pure rfl rfl (by decide) (Pu_assign rfl rfl) (WL_pure rfl rfl (by decide) (Pu_assign rfl rfl) (WL_nil ?_)))))))
                    exact X_round (x + 1) (by omega) (by omega) ⟨rfl, rfl, lookV_eq rfl (int_eq (by omega)), trivial⟩ ⟨rfl, look_eq rfl (by rw [revTo_swap l hlt]; exact rowI_of (revTo l (x + 1)) (by rw [revTo_length, revTo_length]) rfl), trivial⟩
                  exact AHs_nil
                exact AHs_nil
              exact AHs_nil
            exact AHs_nil
          exact AHs_nil
        exact AHs_nil
      exact AHs_nil
    exact AHs_nil
  ·
    have hfin : l.length ≤ 2 * x + 1 := by have := of_decide_eq_false hc9; omega
    refine W_exit (X_then_exit (X_then_exit (X_block_exit ?_)))
    rw [revTo_all l hfin]
    exact X_end [1] (Ps := [_]) (res0 Try.results23) rfl (by decide) ⟨rfl, congrArg (· :: []) (rowI_of l.reverse (by simp) rfl)⟩
end Go.Proofs.Ytamhhkjddmjanaa
