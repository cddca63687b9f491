/- latticelaw3: NamesPaths. -/
import Derived.Test.YtjiafaiklmbbeaaDoorNames4
import Derived.Test.YtjiafaiklmbbeaaDoorTiN
import Derived.Test.YtjiafaiklmbbeaaDoorOpen
namespace Go.Proofs.YtjiafaiklmbbeaaDoor
open Go.RowKit Go.Lib
set_option linter.unusedVariables false
set_option linter.unusedSimpArgs false

theorem namesPaths_law (s : List UInt8) (v1 : Value) (qs : List Q) (pc : List UInt8) (at' : Int) (v4 : Value) (raw : List (List UInt8)) (F : HP) (h1 : ∀ h, F h → rdP 1 v1 qs.length (qs.map (·.1)) h) (hQ : ∀ q ∈ qs, ∀ h, F h → rdN q.1 q.2 h) (hR : ∀ h, F h → rdS v4 raw h) (hT : ∀ h, F h → tabsP h) :
    CallsS Tryd.prog 6 #[sV s, v1, sV pc, .int .i64 at', v4] F [] (fun r Ps => r = .bool true ∧ Ps = []) := by
  refine callsS_enter Tryd.func6 rfl Tryd.ntmps6 (by simp) (fun E => ?_)
  refine W_seq ?_
  refine W.pre (K' := [(0, _), (1, _), (2, _), (3, _), (4, _)]) (L' := [(0, _)]) ?_ ⟨rfl, ⟨rfl, ⟨rfl, ⟨rfl, ⟨rfl, trivial⟩⟩⟩⟩⟩ ⟨rfl, trivial⟩
  refine W_regL (WL_pure rfl rfl (by decide) (Pu_assign rfl rfl) (WL_nil (X_then ?_)))
  refine W_seq ?_
  refine W_seq ?_
  refine W.pre (K' := [(0, _), (1, _), (2, _), (3, _), (4, _), (10, _)]) (L' := [(0, _)]) ?_ ⟨rfl, ⟨rfl, ⟨rfl, ⟨rfl, ⟨rfl, ⟨rfl, trivial⟩⟩⟩⟩⟩⟩ ⟨rfl, trivial⟩
  refine W_regL (WL_cons rfl rfl (by decide) (OpT_call 200 [0] [] rfl Tryd.call8 rfl rfl rfl (by decide) (by decide) (known_spec _ (tabs_star 0 rfl hT)) (fun v34 Ps34 hR34 => ?_)))
  obtain ⟨rfl, rfl⟩ := hR34
  refine (WL_pure rfl rfl (by decide) (Pu_un rfl rfl (run_not _)) (WL_nil (X_then ?_)))
  refine W_false rfl (rfl) ?_
  refine W_skip (X_then ?_)
  refine W_seq ?_
  refine W_seq ?_
  refine W.pre (K' := [(0, _), (1, _), (2, _), (3, _), (4, _), (10, _), (35, _)]) (L' := [(0, _)]) ?_ ⟨rfl, ⟨rfl, ⟨rfl, ⟨rfl, ⟨rfl, ⟨rfl, ⟨rfl, trivial⟩⟩⟩⟩⟩⟩⟩ ⟨rfl, trivial⟩
  refine W_regL (WL_pure rfl rfl (by decide) (Pu_move rfl rfl) (WL_pure rfl rfl (by decide) (Pu_lenStr rfl Tryd.underlying9 rfl) (WL_pure rfl rfl (by decide) (Pu_bin rfl rfl rfl (run_gtr _ _ _ _ _ _)) (WL_pure rfl rfl (by decide) (Pu_move rfl rfl) (WL_guardP rfl rfl rfl rfl (by decide) (fun hb => (Pu_move rfl rfl)) (WL_guardP rfl rfl rfl rfl (by decide) (fun hb => (Pu_lenStr rfl Tryd.underlying9 (ev_gv rfl hb))) (WL_guardP rfl rfl rfl rfl (by decide) (fun hb => (Pu_bin rfl (ev_gv rfl hb) rfl (run_gtr _ _ _ _ _ _))) (WL_pure rfl rfl (by decide) (Pu_or rfl rfl rfl) (WL_pure rfl rfl (by decide) (Pu_move rfl rfl) (WL_guardP rfl rfl rfl rfl (by decide) (fun hb => (Pu_move rfl rfl)) (WL_guardP rfl rfl rfl rfl (by decide) (fun hb => (Pu_len (r := 0) rfl Tryd.runUnderlying30 (ev_gv rfl hb) rfl hR)) (WL_guardP rfl rfl rfl rfl (by decide) (fun hb => (Pu_bin rfl (ev_gv rfl hb) rfl (run_gtr _ _ _ _ _ _))) (WL_pure rfl rfl (by decide) (Pu_or rfl rfl rfl) (WL_pure rfl rfl (by decide) (Pu_move rfl rfl) (WL_guardP rfl rfl rfl rfl (by decide) (fun hb => (Pu_move rfl rfl)) (WL_guardP rfl rfl rfl rfl (by decide) (fun hb => (Pu_len (r := 0) rfl Tryd.runUnderlying38 (ev_gv rfl hb) rfl h1)) (WL_guardP rfl rfl rfl rfl (by decide) (fun hb => (Pu_bin rfl (ev_gv rfl hb) rfl (run_gtr _ _ _ _ _ _))) (WL_pure rfl rfl (by decide) (Pu_or rfl rfl rfl) (WL_nil (X_then ?_))))))))))))))))))))
  refine W_cond rfl (fun hc53 => ?_) (fun hc53 => ?_)
  ·
    refine W_seq ?_
    refine W.pre (K' := [(0, _), (1, _), (2, _), (3, _), (4, _), (10, _), (35, _), (53, _)]) (L' := [(0, _)]) ?_ ⟨rfl, ⟨rfl, ⟨rfl, ⟨rfl, ⟨rfl, ⟨rfl, ⟨rfl, ⟨rfl, trivial⟩⟩⟩⟩⟩⟩⟩⟩ ⟨rfl, trivial⟩
    refine W_regL (WL_pure rfl rfl (by decide) (Pu_assign rfl rfl) (WL_nil (X_then ?_)))
    refine W_ret (X_then_ret ?_)
    exact X_ret [] (Ps := []) (res1 Tryd.results6 rfl) rfl (by decide) ⟨rfl, rfl⟩
  ·
    simp only [Bool.or_eq_false_iff, decide_eq_false_iff_not] at hc53
    have hs5 : s.length ≤ 500 := by omega
    have hp1 : pc.length ≤ 100 := by omega
    have hr10 : raw.length ≤ 10 := by omega
    have hq10 : qs.length ≤ 10 := by omega
    refine W_skip (X_then ?_)
    refine W_seq ?_
    refine W.pre (K' := [(0, _), (1, _), (2, _), (3, _), (4, _), (10, _), (35, _), (53, _)]) (L' := [(0, _)]) ?_ ⟨rfl, ⟨rfl, ⟨rfl, ⟨rfl, ⟨rfl, ⟨rfl, ⟨rfl, ⟨rfl, trivial⟩⟩⟩⟩⟩⟩⟩⟩ ⟨rfl, trivial⟩
    refine W_regL (WL_pure rfl rfl (by decide) (Pu_assign rfl rfl) (WL_nil (X_then ?_)))
    refine W_seq ?_
    refine W_seq ?_
    refine W.pre (K' := [(0, _), (1, _), (2, _), (3, _), (4, _), (10, _), (11, _), (35, _), (53, _)]) (L' := [(0, _)]) ?_ ⟨rfl, ⟨rfl, ⟨rfl, ⟨rfl, ⟨rfl, ⟨rfl, ⟨rfl, ⟨rfl, ⟨rfl, trivial⟩⟩⟩⟩⟩⟩⟩⟩⟩ ⟨rfl, trivial⟩
    refine W_regL (WL_pure rfl rfl (by decide) (Pu_assign rfl rfl) (WL_nil (X_then ?_)))
    refine W_block ?_
    refine W_loop (α := Nat) (fun i => [(0, sV s), (1, v1), (2, sV pc), (3, .int .i64 at'), (4, v4), (11, .int .i64 (smL raw i : Int)), (12, .int .i64 (i : Int))]) (fun i => [(0, F)]) (fun i => i ≤ raw.length ∧ smL raw i ≤ 200 * i ∧ ∀ k, k < i → (raw.getD k []).length ≤ 200) (fun i => raw.length - i) (0) ⟨Nat.zero_le _, Nat.zero_le _, fun k hk => by omega⟩ ⟨rfl, ⟨rfl, ⟨rfl, ⟨rfl, ⟨rfl, ⟨rfl, ⟨rfl, trivial⟩⟩⟩⟩⟩⟩⟩ ⟨rfl, trivial⟩ (fun x hx => ?_)
    obtain ⟨hxl, hsm, hmx⟩ := hx
    refine W_seq ?_
    refine W_seq ?_
    refine W.pre (K' := [(0, _), (1, _), (2, _), (3, _), (4, _), (11, _), (12, _)]) (L' := [(0, _)]) ?_ ⟨rfl, ⟨rfl, ⟨rfl, ⟨rfl, ⟨rfl, ⟨rfl, ⟨rfl, trivial⟩⟩⟩⟩⟩⟩⟩ ⟨rfl, trivial⟩
    refine W_regL (WL_pure rfl rfl (by decide) (Pu_move rfl rfl) (WL_pure rfl rfl (by decide) (Pu_move rfl rfl) (WL_pure rfl rfl (by decide) (Pu_len (r := 0) rfl Tryd.runUnderlying30 rfl rfl hR) (WL_pure rfl rfl (by decide) (Pu_bin rfl rfl rfl (run_lss _ _ _ _ _ _)) (WL_nil (X_then ?_))))))
    refine W_cond rfl (fun hc57 => ?_) (fun hc57 => ?_)
    ·
      have hlt : x < raw.length := by have := of_decide_eq_true hc57; omega
      refine W_skip (X_then ?_)
      refine W_seq ?_
      refine W_block ?_
      refine W_seq ?_
      refine W_seq ?_
      refine W.pre (K' := [(0, _), (1, _), (2, _), (3, _), (4, _), (11, _), (12, _), (57, _)]) (L' := [(0, _)]) ?_ ⟨rfl, ⟨rfl, ⟨rfl, ⟨rfl, ⟨rfl, ⟨rfl, ⟨rfl, ⟨rfl, trivial⟩⟩⟩⟩⟩⟩⟩⟩ ⟨rfl, trivial⟩
      refine W_regL (WL_pure rfl rfl (by decide) (Pu_move rfl rfl) (WL_pure rfl rfl (by decide) (Pu_move rfl rfl) (WL_pure rfl rfl (by decide) (Pu_idxS1 (r := 0) rfl Tryd.runUnderlying30 Tryd.sizeOf9 rfl rfl rfl hR (by omega)) (WL_pure rfl rfl (by decide) (Pu_loadS (r := 0) rfl Tryd.isAgg9 rfl rfl hR (ss_at hlt)) (WL_pure rfl rfl (by decide) (Pu_lenStr rfl Tryd.underlying9 rfl) (WL_pure rfl rfl (by decide) (Pu_bin rfl rfl rfl (run_gtr _ _ _ _ _ _)) (WL_nil (X_then ?_))))))))
      refine W_cond rfl (fun hc65 => ?_) (fun hc65 => ?_)
      ·
        refine W_seq ?_
        refine W.pre (K' := [(0, _), (1, _), (2, _), (3, _), (4, _), (11, _), (12, _), (57, _), (65, _)]) (L' := [(0, _)]) ?_ ⟨rfl, ⟨rfl, ⟨rfl, ⟨rfl, ⟨rfl, ⟨rfl, ⟨rfl, ⟨rfl, ⟨rfl, trivial⟩⟩⟩⟩⟩⟩⟩⟩⟩ ⟨rfl, trivial⟩
        refine W_regL (WL_pure rfl rfl (by decide) (Pu_assign rfl rfl) (WL_nil (X_then ?_)))
        refine W_ret (X_then_ret (X_block_ret (X_then_ret (X_then_ret (X_block_ret (X_then_ret ?_))))))
        exact X_ret [] (Ps := []) (res1 Tryd.results6 rfl) rfl (by decide) ⟨rfl, rfl⟩
      ·
        have h200 : (raw.getD x []).length ≤ 200 := by have h : ¬ (200 : Int) < ((raw.getD x []).length : Int) := of_decide_eq_false hc65; omega
        refine W_skip (X_then ?_)
        refine W.pre (K' := [(0, _), (1, _), (2, _), (3, _), (4, _), (11, _), (12, _), (57, _), (65, _)]) (L' := [(0, _)]) ?_ ⟨rfl, ⟨rfl, ⟨rfl, ⟨rfl, ⟨rfl, ⟨rfl, ⟨rfl, ⟨rfl, ⟨rfl, trivial⟩⟩⟩⟩⟩⟩⟩⟩⟩ ⟨rfl, trivial⟩
        refine W_regL (WL_pure rfl rfl (by decide) (Pu_move rfl rfl) (WL_pure rfl rfl (by decide) (Pu_move rfl rfl) (WL_pure rfl rfl (by decide) (Pu_move rfl rfl) (WL_pure rfl rfl (by decide) (Pu_idxS1 (r := 0) rfl Tryd.runUnderlying30 Tryd.sizeOf9 rfl rfl rfl hR (by omega)) (WL_pure rfl rfl (by decide) (Pu_loadS (r := 0) rfl Tryd.isAgg9 rfl rfl hR (ss_at hlt)) (WL_pure rfl rfl (by decide) (Pu_lenStr rfl Tryd.underlying9 rfl) (WL_pure rfl rfl (by decide) (Pu_bin rfl rfl rfl (run_add _ _ _ _ _ (by simp only [Int.toNat_natCast]; omega))) (WL_pure rfl rfl (by decide) (Pu_assign rfl rfl) (WL_nil (X_block (X_then ?_)))))))))))
        refine W.pre (K' := [(0, _), (1, _), (2, _), (3, _), (4, _), (11, _), (12, _), (57, _), (65, _)]) (L' := [(0, _)]) ?_ ⟨rfl, ⟨rfl, ⟨rfl, ⟨rfl, ⟨rfl, ⟨rfl, ⟨rfl, ⟨rfl, ⟨rfl, trivial⟩⟩⟩⟩⟩⟩⟩⟩⟩ ⟨rfl, trivial⟩
        refine W_regL (WL_pure rfl rfl (by decide) (Pu_move rfl rfl) (WL_pure rfl rfl (by decide) (Pu_bin rfl rfl rfl (run_add _ _ _ _ _ (by omega))) (WL_pure rfl rfl (by decide) (Pu_assign rfl rfl) (WL_nil ?_))))
        exact X_round (x + 1) ⟨hlt, by rw [smL_succ hlt]; omega, fun k hk => by rcases Nat.lt_or_ge k x with h | h; exact hmx k h; obtain rfl : k = x := (by omega); omega⟩ (by omega) ⟨rfl, rfl, rfl, rfl, rfl, congrArg some (by rw [smL_succ hlt] <;> rfl), rfl, trivial⟩ ⟨rfl, trivial⟩
    ·
      have hge : raw.length ≤ x := by have := of_decide_eq_false hc57; omega
      have hjr : (jn raw).length ≤ (200 + 1) * raw.length := jn_bound fun k hk => hmx k (by omega)
      refine W_exit (X_then_exit (X_then_exit (X_block_exit (X_then ?_))))
      refine W_seq ?_
      refine W.pre (K' := [(0, _), (1, _), (2, _), (3, _), (4, _), (11, _), (12, _), (57, _)]) (L' := [(0, _)]) ?_ ⟨rfl, ⟨rfl, ⟨rfl, ⟨rfl, ⟨rfl, ⟨rfl, ⟨rfl, ⟨rfl, trivial⟩⟩⟩⟩⟩⟩⟩⟩ ⟨rfl, trivial⟩
      refine W_regL (WL_pure rfl rfl (by decide) (Pu_assign rfl rfl) (WL_nil (X_then ?_)))
      refine W_seq ?_
      refine W_seq ?_
      refine W.pre (K' := [(0, _), (1, _), (2, _), (3, _), (4, _), (11, _), (12, _), (13, _), (57, _)]) (L' := [(0, _)]) ?_ ⟨rfl, ⟨rfl, ⟨rfl, ⟨rfl, ⟨rfl, ⟨rfl, ⟨rfl, ⟨rfl, ⟨rfl, trivial⟩⟩⟩⟩⟩⟩⟩⟩⟩ ⟨rfl, trivial⟩
      refine W_regL (WL_pure rfl rfl (by decide) (Pu_assign rfl rfl) (WL_nil (X_then ?_)))
      refine W_block ?_
      refine W_nilRow 201 9 1 ?_
      refine W_loop (α := Nat × Value) (fun y => [(0, sV s), (1, v1), (2, sV pc), (3, .int .i64 at'), (4, v4), (13, y.2), (14, .int .i64 (y.1 : Int))]) (fun y => [(0, F), (201, rowS 9 y.2 (nmL qs y.1))]) (fun y => y.1 ≤ qs.length) (fun y => qs.length - y.1) ((0, .slice none 0 0)) (Nat.zero_le _) ⟨rfl, ⟨rfl, ⟨rfl, ⟨rfl, ⟨rfl, ⟨rfl, ⟨rfl, trivial⟩⟩⟩⟩⟩⟩⟩ ⟨rfl, ⟨rfl, trivial⟩⟩ (fun y hy => ?_)
      have hnl := nmL_len qs y.1 hy
      refine W_seq ?_
      refine W_seq ?_
      refine W.pre (K' := [(0, _), (1, _), (2, _), (3, _), (4, _), (13, _), (14, _)]) (L' := [(0, _), (201, _)]) ?_ ⟨rfl, ⟨rfl, ⟨rfl, ⟨rfl, ⟨rfl, ⟨rfl, ⟨rfl, trivial⟩⟩⟩⟩⟩⟩⟩ ⟨rfl, ⟨rfl, trivial⟩⟩
      refine W_regL (WL_pure rfl rfl (by decide) (Pu_move rfl rfl) (WL_pure rfl rfl (by decide) (Pu_move rfl rfl) (WL_pure rfl rfl (by decide) (Pu_len (r := 0) rfl Tryd.runUnderlying38 rfl rfl h1) (WL_pure rfl rfl (by decide) (Pu_bin rfl rfl rfl (run_lss _ _ _ _ _ _)) (WL_nil (X_then ?_))))))
      refine W_cond rfl (fun hc76 => ?_) (fun hc76 => ?_)
      ·
        have hlt : y.1 < qs.length := by have := of_decide_eq_true hc76; omega
        refine W_skip (X_then ?_)
        refine W_seq ?_
        refine W_block ?_
        refine W.pre (K' := [(0, _), (1, _), (2, _), (3, _), (4, _), (13, _), (14, _), (76, _)]) (L' := [(0, _), (201, _)]) ?_ ⟨rfl, ⟨rfl, ⟨rfl, ⟨rfl, ⟨rfl, ⟨rfl, ⟨rfl, ⟨rfl, trivial⟩⟩⟩⟩⟩⟩⟩⟩ ⟨rfl, ⟨rfl, trivial⟩⟩
        unfold rowS
        refine W_regL (WL_pure rfl rfl (by decide) (Pu_move rfl rfl) (WL_pure rfl rfl (by decide) (Pu_move rfl rfl) (WL_pure rfl rfl (by decide) (Pu_move rfl rfl) (WL_pure rfl rfl (by decide) (Pu_idxS1 (r := 0) rfl Tryd.runUnderlying38 Tryd.sizeOf22 rfl rfl rfl h1 (by omega)) (WL_pure rfl rfl (by decide) (Pu_loadS (r := 0) rfl Tryd.isAgg22 rfl rfl h1 (vals_at hlt)) (WL_cons rfl rfl (by decide) (OpT_call 300 [0, 201] [] rfl Tryd.call9 rfl rfl rfl (by decide) (by decide) (name_spec (qs.getD y.1 (undef, [])).1 (qs.getD y.1 (undef, [])).2 _ (rd_star 0 rfl (hQ _ (getD_memQ hlt)))) (fun v84 Ps84 hR84 => ?_))))))))
        obtain ⟨rfl, rfl⟩ := hR84
        refine (WL_cons rfl rfl (by decide) (OpT_buildOnes (r := 301) [sV (nameN (qs.getD y.1 (undef, [])).2)] rfl rfl Tryd.runUnderlying30 Tryd.sizeOf9 Tryd.zeroValue9 rfl rfl (by decide) rfl (by simp [Value.cells]) (fun v85 => (WL_cons rfl rfl (by decide) (OpT_append (r := 201) (r2 := 301) rfl Tryd.underlying30 TI.hi9 TI.hz9 TI.hs9 TI.hby9 TI.hzs9 (by decide) rfl rfl rfl rfl (fun _ h => rowP_rd h) (ss_one [_]) (by unfold maxLen; omega) (by omega) (fun v86 => ?_))))))
        refine (WL_pure rfl rfl (by decide) (Pu_assign rfl rfl) (WL_nil (X_block (X_then ?_))))
        refine W.pre (K' := [(0, _), (1, _), (2, _), (3, _), (4, _), (13, _), (14, _), (76, _)]) (L' := [(0, _), (201, _), (301, _)]) ?_ ⟨rfl, ⟨rfl, ⟨rfl, ⟨rfl, ⟨rfl, ⟨rfl, ⟨rfl, ⟨rfl, trivial⟩⟩⟩⟩⟩⟩⟩⟩ ⟨rfl, ⟨rfl, ⟨rfl, trivial⟩⟩⟩
        refine W_regL (WL_pure rfl rfl (by decide) (Pu_move rfl rfl) (WL_pure rfl rfl (by decide) (Pu_bin rfl rfl rfl (run_add _ _ _ _ _ (by omega))) (WL_pure rfl rfl (by decide) (Pu_assign rfl rfl) (WL_nil ?_))))
        exact X_round (y.1 + 1, v86) hlt (by dsimp only; omega) ⟨rfl, rfl, rfl, rfl, rfl, rfl, rfl, trivial⟩ ⟨rfl, look_eq rfl (rowS_of (nmL qs (y.1 + 1)) (by rw [nmL_succ hlt]; simp) (by rw [nmL_succ hlt, ss_append]; rfl)), trivial⟩
      ·
        have hge : qs.length ≤ y.1 := by have := of_decide_eq_false hc76; omega
        have hjl := jn_nm_len qs y.1
        have hmm : ∀ z ∈ nmL qs y.1, checkN z = 0 ∧ (47 : UInt8) ∉ z ∧ z ≠ [] ∧ z.length ≤ 49 := fun z hz => nm_mem hz
        generalize nmL qs y.1 = ls at *
        have hjo := joinN_len ls
        refine W_exit (X_then_exit (X_then_exit (X_block_exit (X_then ?_))))
        refine W_seq ?_
        refine W.pre (K' := [(0, _), (1, _), (2, _), (3, _), (4, _), (13, _), (14, _), (76, _)]) (L' := [(0, _), (201, _)]) ?_ ⟨rfl, ⟨rfl, ⟨rfl, ⟨rfl, ⟨rfl, ⟨rfl, ⟨rfl, ⟨rfl, trivial⟩⟩⟩⟩⟩⟩⟩⟩ ⟨rfl, ⟨rfl, trivial⟩⟩
        refine W_regL (WL_pure rfl rfl (by decide) (Pu_move rfl rfl) (WL_cons rfl rfl (by decide) (OpT_call 300 [0, 201] [] rfl Tryd.call14 rfl rfl rfl (by decide) (by decide) (join_nspec y.2 ls (by omega) _ (rd_star 1 rfl rowS_rd) (tabs_star 0 rfl hT)) (fun v89 Ps89 hR89 => ?_))))
        obtain ⟨rfl, rfl⟩ := hR89
        refine (WL_pure rfl rfl (by decide) (Pu_move rfl rfl) (WL_pure rfl rfl (by decide) (Pu_extract rfl rfl rfl) (WL_pure rfl rfl (by decide) (Pu_extract rfl rfl rfl) (WL_pure rfl rfl (by decide) (Pu_assign rfl rfl) (WL_pure rfl rfl (by decide) (Pu_assign rfl rfl) (WL_nil (X_then ?_)))))))
        refine W_seq ?_
        refine W.pre (K' := [(0, _), (1, _), (2, _), (3, _), (4, _), (13, _), (14, _), (15, _), (16, _), (76, _)]) (L' := [(0, _), (201, _)]) ?_ ⟨rfl, ⟨rfl, ⟨rfl, ⟨rfl, ⟨rfl, ⟨rfl, ⟨rfl, ⟨rfl, ⟨rfl, ⟨rfl, trivial⟩⟩⟩⟩⟩⟩⟩⟩⟩⟩ ⟨rfl, ⟨rfl, trivial⟩⟩
        refine W_regL (WL_pure rfl rfl (by decide) (Pu_move rfl rfl) (WL_cons rfl rfl (by decide) (OpT_call 400 [0, 201] [] rfl Tryd.call15 rfl rfl rfl (by decide) (by decide) (join_rspec y.2 ls (by omega) _ (rd_star 1 rfl rowS_rd)) (fun v94 Ps94 hR94 => ?_))))
        obtain ⟨rfl, rfl⟩ := hR94
        refine (WL_pure rfl rfl (by decide) (Pu_move rfl rfl) (WL_pure rfl rfl (by decide) (Pu_extract rfl rfl rfl) (WL_pure rfl rfl (by decide) (Pu_extract rfl rfl rfl) (WL_pure rfl rfl (by decide) (Pu_assign rfl rfl) (WL_pure rfl rfl (by decide) (Pu_assign rfl rfl) (WL_nil (X_then ?_)))))))
        refine W_seq ?_
        refine W_seq ?_
        refine W.pre (K' := [(0, _), (1, _), (2, _), (3, _), (4, _), (13, _), (14, _), (15, _), (16, _), (17, _), (18, _), (76, _)]) (L' := [(0, _), (201, _)]) ?_ ⟨rfl, ⟨rfl, ⟨rfl, ⟨rfl, ⟨rfl, ⟨rfl, ⟨rfl, ⟨rfl, ⟨rfl, ⟨rfl, ⟨rfl, ⟨rfl, trivial⟩⟩⟩⟩⟩⟩⟩⟩⟩⟩⟩⟩ ⟨rfl, ⟨rfl, trivial⟩⟩
        refine W_regL (WL_pure rfl rfl (by decide) (Pu_move rfl rfl) (WL_pure rfl rfl (by decide) (Pu_move rfl rfl) (WL_pure rfl rfl (by decide) (Pu_bin rfl rfl rfl (run_strNe _ _ _ _ _)) (WL_pure rfl rfl (by decide) (Pu_move rfl rfl) (WL_guardP rfl rfl rfl rfl (by decide) (fun hb => (Pu_move rfl rfl)) (WL_guardP rfl rfl rfl rfl (by decide) (fun hb => (Pu_move rfl rfl)) (WL_guardP rfl rfl rfl rfl (by decide) (fun hb => (Pu_bin rfl (ev_gv rfl hb) (ev_gv rfl hb) (run_neq _ _ _ _ _ _))) (WL_pure rfl rfl (by decide) (Pu_or rfl rfl rfl) (WL_nil (X_then ?_))))))))))
        refine W_false rfl (by simp) ?_
        refine W_skip (X_then ?_)
        refine W_seq ?_
        refine W_seq ?_
        refine W.pre (K' := [(0, _), (1, _), (2, _), (3, _), (4, _), (13, _), (14, _), (15, _), (16, _), (17, _), (18, _), (76, _), (104, _)]) (L' := [(0, _), (201, _)]) ?_ ⟨rfl, ⟨rfl, ⟨rfl, ⟨rfl, ⟨rfl, ⟨rfl, ⟨rfl, ⟨rfl, ⟨rfl, ⟨rfl, ⟨rfl, ⟨rfl, ⟨rfl, trivial⟩⟩⟩⟩⟩⟩⟩⟩⟩⟩⟩⟩⟩ ⟨rfl, ⟨rfl, trivial⟩⟩
        refine W_regL (WL_pure rfl rfl (by decide) (Pu_move rfl rfl) (WL_pure rfl rfl (by decide) (Pu_bin rfl rfl rfl (run_eql _ _ _ _ _ _)) (WL_nil (X_then ?_))))
        refine W_cond rfl (fun hc106 => ?_) (fun hc106 => ?_)
        ·
          have he0 : (joinN ls).2 = 0 := by have := of_decide_eq_true hc106; omega
          have hsp := split_nm hmm he0
          refine W_seq ?_
          refine W.pre (K' := [(0, _), (1, _), (2, _), (3, _), (4, _), (13, _), (14, _), (15, _), (16, _), (17, _), (18, _), (76, _), (104, _), (106, _)]) (L' := [(0, _), (201, _)]) ?_ ⟨rfl, ⟨rfl, ⟨rfl, ⟨rfl, ⟨rfl, ⟨rfl, ⟨rfl, ⟨rfl, ⟨rfl, ⟨rfl, ⟨rfl, ⟨rfl, ⟨rfl, ⟨rfl, trivial⟩⟩⟩⟩⟩⟩⟩⟩⟩⟩⟩⟩⟩⟩ ⟨rfl, ⟨rfl, trivial⟩⟩
          refine W_regL (WL_pure rfl rfl (by decide) (Pu_move rfl rfl) (WL_cons rfl rfl (by decide) (OpT_call 500 [0, 201] [] rfl Tryd.call13 rfl rfl rfl (by decide) (by decide) (split_nspec (joinN ls).1 (by omega) _ (tabs_star 0 rfl hT)) (fun v109 Ps109 hR109 => ?_))))
          obtain ⟨v109, rfl, rfl⟩ := hR109
          rw [hsp]
          refine (WL_pure rfl rfl (by decide) (Pu_move rfl rfl) (WL_pure rfl rfl (by decide) (Pu_extract rfl rfl rfl) (WL_pure rfl rfl (by decide) (Pu_extract rfl rfl rfl) (WL_pure rfl rfl (by decide) (Pu_assign rfl rfl) (WL_pure rfl rfl (by decide) (Pu_assign rfl rfl) (WL_nil (X_then ?_)))))))
          refine W_seq ?_
          refine W.pre (K' := [(0, _), (1, _), (2, _), (3, _), (4, _), (13, _), (14, _), (15, _), (16, _), (17, _), (18, _), (19, _), (20, _), (76, _), (104, _), (106, _)]) (L' := [(0, _), (201, _), (500, _)]) ?_ ⟨rfl, ⟨rfl, ⟨rfl, ⟨rfl, ⟨rfl, ⟨rfl, ⟨rfl, ⟨rfl, ⟨rfl, ⟨rfl, ⟨rfl, ⟨rfl, ⟨rfl, ⟨rfl, ⟨rfl, ⟨rfl, trivial⟩⟩⟩⟩⟩⟩⟩⟩⟩⟩⟩⟩⟩⟩⟩⟩ ⟨rfl, ⟨rfl, ⟨rfl, trivial⟩⟩⟩
          refine W_regL (WL_pure rfl rfl (by decide) (Pu_move rfl rfl) (WL_pure rfl rfl (by decide) (Pu_bin rfl rfl rfl (run_neq _ _ _ _ _ _)) (WL_pure rfl rfl (by decide) (Pu_move rfl rfl) (WL_gPT rfl rfl rfl rfl rfl (by decide) (Pu_move rfl rfl) (WL_gPT rfl rfl rfl rfl rfl (by decide) (Pu_move rfl rfl) (WL_gT rfl rfl rfl rfl rfl (by decide) (OpT_call 600 [0, 201, 500] [] rfl Tryd.call16 rfl rfl rfl (by decide) (by decide) (same_spec v109 y.2 ls ls (by have := jn_count ls; omega) _ (rd_star 2 rfl rowS_rd) (rd_star 1 rfl rowS_rd)) (fun v117 Ps117 hR117 => ?_))))))))
          obtain ⟨rfl, rfl⟩ := hR117
          refine (WL_gPT rfl rfl rfl rfl rfl (by decide) (Pu_un rfl rfl (run_not _)) (WL_pure rfl rfl (by decide) (Pu_pickF rfl rfl rfl rfl) (WL_nil (X_then ?_))))
          refine W_false rfl (by simp) ?_
          refine W_skip (X_then ?_)
          refine W_seq ?_
          refine W.pre (K' := [(0, _), (1, _), (2, _), (3, _), (4, _), (13, _), (14, _), (15, _), (16, _), (17, _), (18, _), (19, _), (20, _), (76, _), (104, _), (106, _), (119, _)]) (L' := [(0, _), (201, _), (500, _)]) ?_ ⟨rfl, ⟨rfl, ⟨rfl, ⟨rfl, ⟨rfl, ⟨rfl, ⟨rfl, ⟨rfl, ⟨rfl, ⟨rfl, ⟨rfl, ⟨rfl, ⟨rfl, ⟨rfl, ⟨rfl, ⟨rfl, ⟨rfl, trivial⟩⟩⟩⟩⟩⟩⟩⟩⟩⟩⟩⟩⟩⟩⟩⟩⟩ ⟨rfl, ⟨rfl, ⟨rfl, trivial⟩⟩⟩
          refine W_regL (WL_pure rfl rfl (by decide) (Pu_move rfl rfl) (WL_pure rfl rfl (by decide) (Pu_move rfl rfl) (WL_pure rfl rfl (by decide) (Pu_lenStr rfl Tryd.underlying9 rfl) (WL_pure rfl rfl (by decide) (Pu_bin rfl rfl rfl (run_add _ _ _ _ _ (by omega))) (WL_cons rfl rfl (by decide) (OpT_call 700 [0, 201, 500] [] rfl Tryd.call10 rfl rfl rfl (by decide) (by decide) (within_spec at' ((joinN ls).1.length + 1 : Int) (by omega) (by omega) _) (fun v124 Ps124 hR124 => ?_)))))))
          obtain ⟨rfl, rfl⟩ := hR124
          have hm1 := Int.emod_nonneg at' (show ((joinN ls).1.length + 1 : Int) ≠ 0 by omega)
          have hm2 := Int.emod_lt_of_pos at' (show (0 : Int) < ((joinN ls).1.length + 1 : Int) by omega)
          obtain ⟨k, hk, hkl⟩ : ∃ k : Nat, at' % ((joinN ls).1.length + 1 : Int) = (k : Int) ∧ k ≤ (joinN ls).1.length := ⟨(at' % ((joinN ls).1.length + 1 : Int)).toNat, by omega, by omega⟩
          rw [hk]
          refine (WL_pure rfl rfl (by decide) (Pu_assign rfl rfl) (WL_nil (X_then ?_)))
          refine W_seq ?_
          refine W.pre (K' := [(0, _), (1, _), (2, _), (3, _), (4, _), (13, _), (14, _), (15, _), (16, _), (17, _), (18, _), (19, _), (20, _), (21, _), (76, _), (104, _), (106, _), (119, _)]) (L' := [(0, _), (201, _), (500, _)]) ?_ ⟨rfl, ⟨rfl, ⟨rfl, ⟨rfl, ⟨rfl, ⟨rfl, ⟨rfl, ⟨rfl, ⟨rfl, ⟨rfl, ⟨rfl, ⟨rfl, ⟨rfl, ⟨rfl, ⟨rfl, ⟨rfl, ⟨rfl, ⟨rfl, trivial⟩⟩⟩⟩⟩⟩⟩⟩⟩⟩⟩⟩⟩⟩⟩⟩⟩⟩ ⟨rfl, ⟨rfl, ⟨rfl, trivial⟩⟩⟩
          refine W_draw (N := 19) (by kernel_rfl) rfl [(0, _)] ⟨rfl, trivial⟩ ?_
          refine (AH_take 0 rfl (by kernel_rfl) (by kernel_rfl) (by kernel_rfl) rfl rfl (by decide) (Pu_move rfl rfl) (AH_take 1 rfl (by kernel_rfl) (by kernel_rfl) (by kernel_rfl) rfl rfl (by decide) (Pu_move rfl rfl) (AH_take 2 rfl (by kernel_rfl) (by kernel_rfl) (by kernel_rfl) rfl rfl (by decide) (Pu_move rfl rfl) (AH_take 3 rfl (by kernel_rfl) (by kernel_rfl) (by kernel_rfl) rfl rfl (by decide) (Pu_sliceStrE (b := k) rfl Tryd.underlying9 rfl (.inl ⟨rfl, rfl⟩) (.inr ⟨_, _, _, rfl, rfl, rfl⟩) (Nat.zero_le _) (by omega) (take_front _ _)) (AH_take 4 rfl (by kernel_rfl) (by kernel_rfl) (by kernel_rfl) rfl rfl (by decide) (Pu_move rfl rfl) (AH_take 5 rfl (by kernel_rfl) (by kernel_rfl) (by kernel_rfl) rfl rfl (by decide) (Pu_bin rfl rfl rfl (run_addL _ _ _ _ _ (by simp only [List.length_append, List.length_take, List.length_drop, List.length_cons, List.length_nil]; omega))) (AH_take 6 rfl (by kernel_rfl) (by kernel_rfl) (by kernel_rfl) rfl rfl (by decide) (Pu_move rfl rfl) (AH_take 7 rfl (by kernel_rfl) (by kernel_rfl) (by kernel_rfl) rfl rfl (by decide) (Pu_move rfl rfl) (AH_take 8 rfl (by kernel_rfl) (by kernel_rfl) (by kernel_rfl) rfl rfl (by decide) (Pu_sliceStrE (a := k) rfl Tryd.underlying9 rfl (.inr ⟨_, _, _, rfl, rfl, rfl⟩) (.inl ⟨rfl, rfl⟩) (by omega) (Nat.le_refl _) (take_rest _ _)) (AH_take 9 rfl (by kernel_rfl) (by kernel_rfl) (by kernel_rfl) rfl rfl (by decide) (Pu_bin rfl rfl rfl (run_addL _ _ _ _ _ (by simp only [List.length_append, List.length_take, List.length_drop, List.length_cons, List.length_nil]; omega))) (AH_take 10 rfl (by kernel_rfl) (by kernel_rfl) (by kernel_rfl) rfl rfl (by decide) (Pu_move rfl rfl) (AH_take 11 rfl (by kernel_rfl) (by kernel_rfl) (by kernel_rfl) rfl rfl (by decide) (Pu_bin rfl rfl rfl (run_addL _ _ _ _ _ (by simp only [List.length_append, List.length_take, List.length_drop, List.length_cons, List.length_nil]; omega))) (AH_take 12 rfl (by kernel_rfl) (by kernel_rfl) (by kernel_rfl) rfl rfl (by decide) (Pu_move rfl rfl) (AH_take 13 rfl (by kernel_rfl) (by kernel_rfl) (by kernel_rfl) rfl rfl (by decide) (Pu_bin rfl rfl rfl (run_addL _ _ _ _ _ (by simp only [List.length_append, List.length_take, List.length_drop, List.length_cons, List.length_nil]; omega))) (AH_take 14 rfl (by kernel_rfl) (by kernel_rfl) (by kernel_rfl) rfl rfl (by decide) (Pu_move rfl rfl) (AH_take 15 rfl (by kernel_rfl) (by kernel_rfl) (by kernel_rfl) rfl rfl (by decide) (Pu_move rfl rfl) (AH_take 16 rfl (by kernel_rfl) (by kernel_rfl) (by kernel_rfl) rfl rfl (by decide) (Pu_sliceStrE (b := k) rfl Tryd.underlying9 rfl (.inl ⟨rfl, rfl⟩) (.inr ⟨_, _, _, rfl, rfl, rfl⟩) (Nat.zero_le _) (by omega) (take_front _ _)) (AH_ready [17] (by kernel_rfl) (by decide) ?_))))))))))))))))))
          refine AHs_cons rfl rfl rfl (by decide) (OpT_buildOnes (r := 701) (ss (rowsP s (joinN ls).1 pc k)) rfl rfl Tryd.runUnderlying30 Tryd.sizeOf9 Tryd.zeroValue9 rfl rfl (by decide) rfl (ss_cells _) (fun v142 => ⟨⟨rfl, trivial⟩, ?_⟩)) ?_
          ·
            refine (AH_take 18 rfl (by kernel_rfl) (by kernel_rfl) (by kernel_rfl) rfl rfl (by decide) (Pu_assign rfl rfl) (AH_done (by kernel_rfl) (X_then ?_)))
            refine W_seq ?_
            refine W_seq ?_
            refine W.pre (K' := [(0, _), (1, _), (2, _), (3, _), (4, _), (13, _), (14, _), (15, _), (16, _), (17, _), (18, _), (19, _), (20, _), (21, _), (22, _), (76, _), (104, _), (106, _), (119, _)]) (L' := [(0, _), (201, _), (500, _), (701, _)]) ?_ ⟨rfl, ⟨rfl, ⟨rfl, ⟨rfl, ⟨rfl, ⟨rfl, ⟨rfl, ⟨rfl, ⟨rfl, ⟨rfl, ⟨rfl, ⟨rfl, ⟨rfl, ⟨rfl, ⟨rfl, ⟨rfl, ⟨rfl, ⟨rfl, ⟨rfl, trivial⟩⟩⟩⟩⟩⟩⟩⟩⟩⟩⟩⟩⟩⟩⟩⟩⟩⟩⟩ ⟨rfl, ⟨rfl, ⟨rfl, ⟨rfl, trivial⟩⟩⟩⟩
            refine W_regL (WL_pure rfl rfl (by decide) (Pu_assign rfl rfl) (WL_nil (X_then ?_)))
            refine W_block ?_
            refine W_turn (P' := rowS 9 v142 (rowsP s (joinN ls).1 pc k)) 701 rfl (fun h hp => hp) ?_
            have hrl := rowsP_len (s := s) (p := (joinN ls).1) (pc := pc) hkl hs5 (by omega) hp1
            have hr5 : (rowsP s (joinN ls).1 pc k).length = 5 := rfl
            generalize rowsP s (joinN ls).1 pc k = R at *
            refine W_loop (α := Nat) (fun i => [(4, v4), (22, v142), (23, .int .i64 (i : Int))]) (fun i => [(0, F), (701, rowS 9 v142 R)]) (fun i => i ≤ 5) (fun i => 5 - i) (0) (Nat.zero_le _) ⟨rfl, ⟨rfl, ⟨rfl, trivial⟩⟩⟩ ⟨rfl, ⟨rfl, trivial⟩⟩ (fun z hz => ?_)
            refine W_seq ?_
            refine W_seq ?_
            refine W.pre (K' := [(4, _), (22, _), (23, _)]) (L' := [(0, _), (701, _)]) ?_ ⟨rfl, ⟨rfl, ⟨rfl, trivial⟩⟩⟩ ⟨rfl, ⟨rfl, trivial⟩⟩
            refine W_regL (WL_pure rfl rfl (by decide) (Pu_move rfl rfl) (WL_pure rfl rfl (by decide) (Pu_move rfl rfl) (WL_pure rfl rfl (by decide) (Pu_len (r := 701) rfl Tryd.runUnderlying30 rfl rfl rowS_rd) (WL_pure rfl rfl (by decide) (Pu_bin rfl rfl rfl (run_lss _ _ _ _ _ _)) (WL_nil (X_then ?_))))))
            refine W_cond rfl (fun hc146 => ?_) (fun hc146 => ?_)
            ·
              have hlt : z < R.length := by have := of_decide_eq_true hc146; omega
              have hRl := hrl _ (getD_mem hlt)
              have hRs := splitN_len (R.getD z [])
              refine W_skip (X_then ?_)
              refine W_seq ?_
              refine W_block ?_
              refine W_seq ?_
              refine W.pre (K' := [(4, _), (22, _), (23, _), (146, _)]) (L' := [(0, _), (701, _)]) ?_ ⟨rfl, ⟨rfl, ⟨rfl, ⟨rfl, trivial⟩⟩⟩⟩ ⟨rfl, ⟨rfl, trivial⟩⟩
              refine W_regL (WL_pure rfl rfl (by decide) (Pu_move rfl rfl) (WL_pure rfl rfl (by decide) (Pu_move rfl rfl) (WL_pure rfl rfl (by decide) (Pu_idxS1 (r := 701) rfl Tryd.runUnderlying30 Tryd.sizeOf9 rfl rfl rfl rowS_rd (by omega)) (WL_pure rfl rfl (by decide) (Pu_loadS (r := 701) rfl Tryd.isAgg9 rfl rfl rowS_rd (ss_at hlt)) (WL_cons rfl rfl (by decide) (OpT_call 800 [0, 701] [] rfl Tryd.call13 rfl rfl rfl (by decide) (by decide) (split_nspec (R.getD z []) (by omega) _ (tabs_star 0 rfl hT)) (fun v154 Ps154 hR154 => ?_)))))))
              obtain ⟨v154, rfl, rfl⟩ := hR154
              refine (WL_pure rfl rfl (by decide) (Pu_move rfl rfl) (WL_pure rfl rfl (by decide) (Pu_extract rfl rfl rfl) (WL_pure rfl rfl (by decide) (Pu_extract rfl rfl rfl) (WL_pure rfl rfl (by decide) (Pu_assign rfl rfl) (WL_pure rfl rfl (by decide) (Pu_assign rfl rfl) (WL_nil (X_then ?_)))))))
              refine W_seq ?_
              refine W.pre (K' := [(4, _), (22, _), (23, _), (24, _), (25, _), (146, _)]) (L' := [(0, _), (701, _), (800, _)]) ?_ ⟨rfl, ⟨rfl, ⟨rfl, ⟨rfl, ⟨rfl, ⟨rfl, trivial⟩⟩⟩⟩⟩⟩ ⟨rfl, ⟨rfl, ⟨rfl, trivial⟩⟩⟩
              refine W_regL (WL_pure rfl rfl (by decide) (Pu_move rfl rfl) (WL_pure rfl rfl (by decide) (Pu_move rfl rfl) (WL_pure rfl rfl (by decide) (Pu_idxS1 (r := 701) rfl Tryd.runUnderlying30 Tryd.sizeOf9 rfl rfl rfl rowS_rd (by omega)) (WL_pure rfl rfl (by decide) (Pu_loadS (r := 701) rfl Tryd.isAgg9 rfl rfl rowS_rd (ss_at hlt)) (WL_cons rfl rfl (by decide) (OpT_call 900 [0, 701, 800] [] rfl Tryd.call17 rfl rfl rfl (by decide) (by decide) (split_rspec (R.getD z []) (by omega) _) (fun v162 Ps162 hR162 => ?_)))))))
              obtain ⟨v162, rfl, rfl⟩ := hR162
              refine (WL_pure rfl rfl (by decide) (Pu_move rfl rfl) (WL_pure rfl rfl (by decide) (Pu_extract rfl rfl rfl) (WL_pure rfl rfl (by decide) (Pu_extract rfl rfl rfl) (WL_pure rfl rfl (by decide) (Pu_assign rfl rfl) (WL_pure rfl rfl (by decide) (Pu_assign rfl rfl) (WL_nil (X_then ?_)))))))
              refine W_seq ?_
              refine W_seq ?_
              refine W.pre (K' := [(4, _), (22, _), (23, _), (24, _), (25, _), (26, _), (27, _), (146, _)]) (L' := [(0, _), (701, _), (800, _), (900, _)]) ?_ ⟨rfl, ⟨rfl, ⟨rfl, ⟨rfl, ⟨rfl, ⟨rfl, ⟨rfl, ⟨rfl, trivial⟩⟩⟩⟩⟩⟩⟩⟩ ⟨rfl, ⟨rfl, ⟨rfl, ⟨rfl, trivial⟩⟩⟩⟩
              refine W_regL (WL_pure rfl rfl (by decide) (Pu_move rfl rfl) (WL_pure rfl rfl (by decide) (Pu_move rfl rfl) (WL_cons rfl rfl (by decide) (OpT_call 1000 [0, 701, 800, 900] [] rfl Tryd.call16 rfl rfl rfl (by decide) (by decide) (same_spec v154 v162 (splitN (R.getD z [])).1 (splitN (R.getD z [])).1 (by omega) _ (rd_star 2 rfl rowS_rd) (rd_star 3 rfl rowS_rd)) (fun v167 Ps167 hR167 => ?_)))))
              obtain ⟨rfl, rfl⟩ := hR167
              refine (WL_pure rfl rfl (by decide) (Pu_un rfl rfl (run_not _)) (WL_pure rfl rfl (by decide) (Pu_move rfl rfl) (WL_guardP rfl rfl rfl rfl (by decide) (fun hb => (Pu_move rfl rfl)) (WL_guardP rfl rfl rfl rfl (by decide) (fun hb => (Pu_move rfl rfl)) (WL_guardP rfl rfl rfl rfl (by decide) (fun hb => (Pu_bin rfl (ev_gv rfl hb) (ev_gv rfl hb) (run_neq _ _ _ _ _ _))) (WL_pure rfl rfl (by decide) (Pu_or rfl rfl rfl) (WL_nil (X_then ?_))))))))
              refine W_false rfl (by simp) ?_
              refine W_skip (X_then ?_)
              refine W_seq ?_
              refine W.pre (K' := [(4, _), (22, _), (23, _), (24, _), (25, _), (26, _), (27, _), (146, _), (173, _)]) (L' := [(0, _), (701, _), (800, _), (900, _)]) ?_ ⟨rfl, ⟨rfl, ⟨rfl, ⟨rfl, ⟨rfl, ⟨rfl, ⟨rfl, ⟨rfl, ⟨rfl, trivial⟩⟩⟩⟩⟩⟩⟩⟩⟩ ⟨rfl, ⟨rfl, ⟨rfl, ⟨rfl, trivial⟩⟩⟩⟩
              refine W_regL (WL_pure rfl rfl (by decide) (Pu_move rfl rfl) (WL_pure rfl rfl (by decide) (Pu_bin rfl rfl rfl (run_eql _ _ _ _ _ _)) (WL_nil (X_then ?_))))
              refine W_cond rfl (fun hc175 => ?_) (fun hc175 => ?_)
              ·
                have hg0 : (splitN (R.getD z [])).2 = 0 := by have := of_decide_eq_true hc175; omega
                have hjs := join_split hg0
                have hjn := jn_split hg0
                refine W_seq ?_
                refine W.pre (K' := [(4, _), (22, _), (23, _), (24, _), (25, _), (26, _), (27, _), (146, _), (173, _), (175, _)]) (L' := [(0, _), (701, _), (800, _), (900, _)]) ?_ ⟨rfl, ⟨rfl, ⟨rfl, ⟨rfl, ⟨rfl, ⟨rfl, ⟨rfl, ⟨rfl, ⟨rfl, ⟨rfl, trivial⟩⟩⟩⟩⟩⟩⟩⟩⟩⟩ ⟨rfl, ⟨rfl, ⟨rfl, ⟨rfl, trivial⟩⟩⟩⟩
                refine W_regL (WL_pure rfl rfl (by decide) (Pu_move rfl rfl) (WL_cons rfl rfl (by decide) (OpT_call 1100 [0, 701, 800, 900] [] rfl Tryd.call14 rfl rfl rfl (by decide) (by decide) (join_nspec v154 (splitN (R.getD z [])).1 (by omega) _ (rd_star 2 rfl rowS_rd) (tabs_star 0 rfl hT)) (fun v178 Ps178 hR178 => ?_))))
                obtain ⟨rfl, rfl⟩ := hR178
                rw [hjs]
                refine (WL_pure rfl rfl (by decide) (Pu_move rfl rfl) (WL_pure rfl rfl (by decide) (Pu_extract rfl rfl rfl) (WL_pure rfl rfl (by decide) (Pu_extract rfl rfl rfl) (WL_pure rfl rfl (by decide) (Pu_assign rfl rfl) (WL_pure rfl rfl (by decide) (Pu_assign rfl rfl) (WL_nil (X_then ?_)))))))
                refine W_seq ?_
                refine W.pre (K' := [(4, _), (22, _), (23, _), (24, _), (25, _), (26, _), (27, _), (28, _), (29, _), (146, _), (173, _), (175, _)]) (L' := [(0, _), (701, _), (800, _), (900, _)]) ?_ ⟨rfl, ⟨rfl, ⟨rfl, ⟨rfl, ⟨rfl, ⟨rfl, ⟨rfl, ⟨rfl, ⟨rfl, ⟨rfl, ⟨rfl, ⟨rfl, trivial⟩⟩⟩⟩⟩⟩⟩⟩⟩⟩⟩⟩ ⟨rfl, ⟨rfl, ⟨rfl, ⟨rfl, trivial⟩⟩⟩⟩
                refine W_regL (WL_pure rfl rfl (by decide) (Pu_move rfl rfl) (WL_pure rfl rfl (by decide) (Pu_bin rfl rfl rfl (run_neq _ _ _ _ _ _)) (WL_pure rfl rfl (by decide) (Pu_move rfl rfl) (WL_gPT rfl rfl rfl rfl rfl (by decide) (Pu_move rfl rfl) (WL_gPT rfl rfl rfl rfl rfl (by decide) (Pu_move rfl rfl) (WL_gPT rfl rfl rfl rfl rfl (by decide) (Pu_move rfl rfl) (WL_gPT rfl rfl rfl rfl rfl (by decide) (Pu_idxS1 (r := 701) rfl Tryd.runUnderlying30 Tryd.sizeOf9 rfl rfl rfl rowS_rd (by omega)) (WL_gPT rfl rfl rfl rfl rfl (by decide) (Pu_loadS (r := 701) rfl Tryd.isAgg9 rfl rfl rowS_rd (ss_at hlt)) (WL_gPT rfl rfl rfl rfl rfl (by decide) (Pu_bin rfl rfl rfl (run_strNe _ _ _ _ _)) (WL_pure rfl rfl (by decide) (Pu_pickF rfl rfl rfl rfl) (WL_nil (X_then ?_))))))))))))
                refine W_false rfl (by simp) ?_
                refine W_skip (X_block (X_then ?_))
                refine W.pre (K' := [(4, _), (22, _), (23, _), (24, _), (25, _), (26, _), (27, _), (28, _), (29, _), (146, _), (173, _), (175, _), (190, _)]) (L' := [(0, _), (701, _), (800, _), (900, _)]) ?_ ⟨rfl, ⟨rfl, ⟨rfl, ⟨rfl, ⟨rfl, ⟨rfl, ⟨rfl, ⟨rfl, ⟨rfl, ⟨rfl, ⟨rfl, ⟨rfl, ⟨rfl, trivial⟩⟩⟩⟩⟩⟩⟩⟩⟩⟩⟩⟩⟩ ⟨rfl, ⟨rfl, ⟨rfl, ⟨rfl, trivial⟩⟩⟩⟩
                refine W_regL (WL_pure rfl rfl (by decide) (Pu_move rfl rfl) (WL_pure rfl rfl (by decide) (Pu_bin rfl rfl rfl (run_add _ _ _ _ _ (by omega))) (WL_pure rfl rfl (by decide) (Pu_assign rfl rfl) (WL_nil ?_))))
                exact X_round (z + 1) (by omega) (by omega) ⟨rfl, rfl, rfl, trivial⟩ ⟨rfl, rfl, trivial⟩
              ·
                refine W_skip (X_block (X_then ?_))
                refine W.pre (K' := [(4, _), (22, _), (23, _), (24, _), (25, _), (26, _), (27, _), (146, _), (173, _), (175, _)]) (L' := [(0, _), (701, _), (800, _), (900, _)]) ?_ ⟨rfl, ⟨rfl, ⟨rfl, ⟨rfl, ⟨rfl, ⟨rfl, ⟨rfl, ⟨rfl, ⟨rfl, ⟨rfl, trivial⟩⟩⟩⟩⟩⟩⟩⟩⟩⟩ ⟨rfl, ⟨rfl, ⟨rfl, ⟨rfl, trivial⟩⟩⟩⟩
                refine W_regL (WL_pure rfl rfl (by decide) (Pu_move rfl rfl) (WL_pure rfl rfl (by decide) (Pu_bin rfl rfl rfl (run_add _ _ _ _ _ (by omega))) (WL_pure rfl rfl (by decide) (Pu_assign rfl rfl) (WL_nil ?_))))
                exact X_round (z + 1) (by omega) (by omega) ⟨rfl, rfl, rfl, trivial⟩ ⟨rfl, rfl, trivial⟩
            ·
              refine W_exit (X_then_exit (X_then_exit (X_block_exit (X_then ?_))))
              refine W_seq ?_
              refine W.pre (K' := [(4, _), (22, _), (23, _), (146, _)]) (L' := [(0, _), (701, _)]) ?_ ⟨rfl, ⟨rfl, ⟨rfl, ⟨rfl, trivial⟩⟩⟩⟩ ⟨rfl, ⟨rfl, trivial⟩⟩
              refine W_regL (WL_pure rfl rfl (by decide) (Pu_move rfl rfl) (WL_cons rfl rfl (by decide) (OpT_call 800 [0, 701] [] rfl Tryd.call14 rfl rfl rfl (by decide) (by decide) (join_nspec v4 raw (by omega) _ (rd_star 0 rfl hR) (tabs_star 0 rfl hT)) (fun v193 Ps193 hR193 => ?_))))
              obtain ⟨rfl, rfl⟩ := hR193
              refine (WL_pure rfl rfl (by decide) (Pu_move rfl rfl) (WL_pure rfl rfl (by decide) (Pu_extract rfl rfl rfl) (WL_pure rfl rfl (by decide) (Pu_extract rfl rfl rfl) (WL_pure rfl rfl (by decide) (Pu_assign rfl rfl) (WL_pure rfl rfl (by decide) (Pu_assign rfl rfl) (WL_nil (X_then ?_)))))))
              refine W_seq ?_
              refine W.pre (K' := [(4, _), (22, _), (23, _), (30, _), (31, _), (146, _)]) (L' := [(0, _), (701, _)]) ?_ ⟨rfl, ⟨rfl, ⟨rfl, ⟨rfl, ⟨rfl, ⟨rfl, trivial⟩⟩⟩⟩⟩⟩ ⟨rfl, ⟨rfl, trivial⟩⟩
              refine W_regL (WL_pure rfl rfl (by decide) (Pu_move rfl rfl) (WL_cons rfl rfl (by decide) (OpT_call 900 [0, 701] [] rfl Tryd.call15 rfl rfl rfl (by decide) (by decide) (join_rspec v4 raw (by omega) _ (rd_star 0 rfl hR)) (fun v198 Ps198 hR198 => ?_))))
              obtain ⟨rfl, rfl⟩ := hR198
              refine (WL_pure rfl rfl (by decide) (Pu_move rfl rfl) (WL_pure rfl rfl (by decide) (Pu_extract rfl rfl rfl) (WL_pure rfl rfl (by decide) (Pu_extract rfl rfl rfl) (WL_pure rfl rfl (by decide) (Pu_assign rfl rfl) (WL_pure rfl rfl (by decide) (Pu_assign rfl rfl) (WL_nil (X_then ?_)))))))
              refine W_seq ?_
              refine W.pre (K' := [(4, _), (22, _), (23, _), (30, _), (31, _), (32, _), (33, _), (146, _)]) (L' := [(0, _), (701, _)]) ?_ ⟨rfl, ⟨rfl, ⟨rfl, ⟨rfl, ⟨rfl, ⟨rfl, ⟨rfl, ⟨rfl, trivial⟩⟩⟩⟩⟩⟩⟩⟩ ⟨rfl, ⟨rfl, trivial⟩⟩
              refine W_regL (WL_pure rfl rfl (by decide) (Pu_move rfl rfl) (WL_pure rfl rfl (by decide) (Pu_move rfl rfl) (WL_pure rfl rfl (by decide) (Pu_bin rfl rfl rfl (run_strEq _ _ _ _ _)) (WL_pure rfl rfl (by decide) (Pu_move rfl rfl) (WL_guardP rfl rfl rfl rfl (by decide) (fun hb => (Pu_move rfl rfl)) (WL_guardP rfl rfl rfl rfl (by decide) (fun hb => (Pu_move rfl rfl)) (WL_guardP rfl rfl rfl rfl (by decide) (fun hb => (Pu_bin rfl (ev_gv rfl hb) (ev_gv rfl hb) (run_eql _ _ _ _ _ _))) (WL_pure rfl rfl (by decide) (Pu_and rfl rfl rfl) (WL_pure rfl rfl (by decide) (Pu_assign rfl rfl) (WL_nil (X_then ?_)))))))))))
              refine W_ret ?_
              exact X_ret [] (Ps := []) (res1 Tryd.results6 rfl) rfl (by decide) ⟨bool_val (by simp), rfl⟩
          exact AHs_nil
        ·
          refine W_skip (X_then ?_)
          refine W_seq ?_
          refine W.pre (K' := [(0, _), (1, _), (2, _), (3, _), (4, _), (13, _), (14, _), (15, _), (16, _), (17, _), (18, _), (76, _), (104, _), (106, _)]) (L' := [(0, _), (201, _)]) ?_ ⟨rfl, ⟨rfl, ⟨rfl, ⟨rfl, ⟨rfl, ⟨rfl, ⟨rfl, ⟨rfl, ⟨rfl, ⟨rfl, ⟨rfl, ⟨rfl, ⟨rfl, ⟨rfl, trivial⟩⟩⟩⟩⟩⟩⟩⟩⟩⟩⟩⟩⟩⟩ ⟨rfl, ⟨rfl, trivial⟩⟩
          refine W_regL (WL_pure rfl rfl (by decide) (Pu_move rfl rfl) (WL_pure rfl rfl (by decide) (Pu_move rfl rfl) (WL_pure rfl rfl (by decide) (Pu_lenStr rfl Tryd.underlying9 rfl) (WL_pure rfl rfl (by decide) (Pu_bin rfl rfl rfl (run_add _ _ _ _ _ (by omega))) (WL_cons rfl rfl (by decide) (OpT_call 500 [0, 201] [] rfl Tryd.call10 rfl rfl rfl (by decide) (by decide) (within_spec at' ((joinN ls).1.length + 1 : Int) (by omega) (by omega) _) (fun v124 Ps124 hR124 => ?_)))))))
          obtain ⟨rfl, rfl⟩ := hR124
          have hm1 := Int.emod_nonneg at' (show ((joinN ls).1.length + 1 : Int) ≠ 0 by omega)
          have hm2 := Int.emod_lt_of_pos at' (show (0 : Int) < ((joinN ls).1.length + 1 : Int) by omega)
          obtain ⟨k, hk, hkl⟩ : ∃ k : Nat, at' % ((joinN ls).1.length + 1 : Int) = (k : Int) ∧ k ≤ (joinN ls).1.length := ⟨(at' % ((joinN ls).1.length + 1 : Int)).toNat, by omega, by omega⟩
          rw [hk]
          refine (WL_pure rfl rfl (by decide) (Pu_assign rfl rfl) (WL_nil (X_then ?_)))
          refine W_seq ?_
          refine W.pre (K' := [(0, _), (1, _), (2, _), (3, _), (4, _), (13, _), (14, _), (15, _), (16, _), (17, _), (18, _), (21, _), (76, _), (104, _), (106, _)]) (L' := [(0, _), (201, _)]) ?_ ⟨rfl, ⟨rfl, ⟨rfl, ⟨rfl, ⟨rfl, ⟨rfl, ⟨rfl, ⟨rfl, ⟨rfl, ⟨rfl, ⟨rfl, ⟨rfl, ⟨rfl, ⟨rfl, ⟨rfl, trivial⟩⟩⟩⟩⟩⟩⟩⟩⟩⟩⟩⟩⟩⟩⟩ ⟨rfl, ⟨rfl, trivial⟩⟩
          refine W_draw (N := 19) (by kernel_rfl) rfl [(0, _)] ⟨rfl, trivial⟩ ?_
          refine (AH_take 0 rfl (by kernel_rfl) (by kernel_rfl) (by kernel_rfl) rfl rfl (by decide) (Pu_move rfl rfl) (AH_take 1 rfl (by kernel_rfl) (by kernel_rfl) (by kernel_rfl) rfl rfl (by decide) (Pu_move rfl rfl) (AH_take 2 rfl (by kernel_rfl) (by kernel_rfl) (by kernel_rfl) rfl rfl (by decide) (Pu_move rfl rfl) (AH_take 3 rfl (by kernel_rfl) (by kernel_rfl) (by kernel_rfl) rfl rfl (by decide) (Pu_sliceStrE (b := k) rfl Tryd.underlying9 rfl (.inl ⟨rfl, rfl⟩) (.inr ⟨_, _, _, rfl, rfl, rfl⟩) (Nat.zero_le _) (by omega) (take_front _ _)) (AH_take 4 rfl (by kernel_rfl) (by kernel_rfl) (by kernel_rfl) rfl rfl (by decide) (Pu_move rfl rfl) (AH_take 5 rfl (by kernel_rfl) (by kernel_rfl) (by kernel_rfl) rfl rfl (by decide) (Pu_bin rfl rfl rfl (run_addL _ _ _ _ _ (by simp only [List.length_append, List.length_take, List.length_drop, List.length_cons, List.length_nil]; omega))) (AH_take 6 rfl (by kernel_rfl) (by kernel_rfl) (by kernel_rfl) rfl rfl (by decide) (Pu_move rfl rfl) (AH_take 7 rfl (by kernel_rfl) (by kernel_rfl) (by kernel_rfl) rfl rfl (by decide) (Pu_move rfl rfl) (AH_take 8 rfl (by kernel_rfl) (by kernel_rfl) (by kernel_rfl) rfl rfl (by decide) (Pu_sliceStrE (a := k) rfl Tryd.underlying9 rfl (.inr ⟨_, _, _, rfl, rfl, rfl⟩) (.inl ⟨rfl, rfl⟩) (by omega) (Nat.le_refl _) (take_rest _ _)) (AH_take 9 rfl (by kernel_rfl) (by kernel_rfl) (by kernel_rfl) rfl rfl (by decide) (Pu_bin rfl rfl rfl (run_addL _ _ _ _ _ (by simp only [List.length_append, List.length_take, List.length_drop, List.length_cons, List.length_nil]; omega))) (AH_take 10 rfl (by kernel_rfl) (by kernel_rfl) (by kernel_rfl) rfl rfl (by decide) (Pu_move rfl rfl) (AH_take 11 rfl (by kernel_rfl) (by kernel_rfl) (by kernel_rfl) rfl rfl (by decide) (Pu_bin rfl rfl rfl (run_addL _ _ _ _ _ (by simp only [List.length_append, List.length_take, List.length_drop, List.length_cons, List.length_nil]; omega))) (AH_take 12 rfl (by kernel_rfl) (by kernel_rfl) (by kernel_rfl) rfl rfl (by decide) (Pu_move rfl rfl) (AH_take 13 rfl (by kernel_rfl) (by kernel_rfl) (by kernel_rfl) rfl rfl (by decide) (Pu_bin rfl rfl rfl (run_addL _ _ _ _ _ (by simp only [List.length_append, List.length_take, List.length_drop, List.length_cons, List.length_nil]; omega))) (AH_take 14 rfl (by kernel_rfl) (by kernel_rfl) (by kernel_rfl) rfl rfl (by decide) (Pu_move rfl rfl) (AH_take 15 rfl (by kernel_rfl) (by kernel_rfl) (by kernel_rfl) rfl rfl (by decide) (Pu_move rfl rfl) (AH_take 16 rfl (by kernel_rfl) (by kernel_rfl) (by kernel_rfl) rfl rfl (by decide) (Pu_sliceStrE (b := k) rfl Tryd.underlying9 rfl (.inl ⟨rfl, rfl⟩) (.inr ⟨_, _, _, rfl, rfl, rfl⟩) (Nat.zero_le _) (by omega) (take_front _ _)) (AH_ready [17] (by kernel_rfl) (by decide) ?_))))))))))))))))))
          refine AHs_cons rfl rfl rfl (by decide) (OpT_buildOnes (r := 501) (ss (rowsP s (joinN ls).1 pc k)) rfl rfl Tryd.runUnderlying30 Tryd.sizeOf9 Tryd.zeroValue9 rfl rfl (by decide) rfl (ss_cells _) (fun v142 => ⟨⟨rfl, trivial⟩, ?_⟩)) ?_
          ·
            refine (AH_take 18 rfl (by kernel_rfl) (by kernel_rfl) (by kernel_rfl) rfl rfl (by decide) (Pu_assign rfl rfl) (AH_done (by kernel_rfl) (X_then ?_)))
            refine W_seq ?_
            refine W_seq ?_
            refine W.pre (K' := [(0, _), (1, _), (2, _), (3, _), (4, _), (13, _), (14, _), (15, _), (16, _), (17, _), (18, _), (21, _), (22, _), (76, _), (104, _), (106, _)]) (L' := [(0, _), (201, _), (501, _)]) ?_ ⟨rfl, ⟨rfl, ⟨rfl, ⟨rfl, ⟨rfl, ⟨rfl, ⟨rfl, ⟨rfl, ⟨rfl, ⟨rfl, ⟨rfl, ⟨rfl, ⟨rfl, ⟨rfl, ⟨rfl, ⟨rfl, trivial⟩⟩⟩⟩⟩⟩⟩⟩⟩⟩⟩⟩⟩⟩⟩⟩ ⟨rfl, ⟨rfl, ⟨rfl, trivial⟩⟩⟩
            refine W_regL (WL_pure rfl rfl (by decide) (Pu_assign rfl rfl) (WL_nil (X_then ?_)))
            refine W_block ?_
            refine W_turn (P' := rowS 9 v142 (rowsP s (joinN ls).1 pc k)) 501 rfl (fun h hp => hp) ?_
            have hrl := rowsP_len (s := s) (p := (joinN ls).1) (pc := pc) hkl hs5 (by omega) hp1
            have hr5 : (rowsP s (joinN ls).1 pc k).length = 5 := rfl
            generalize rowsP s (joinN ls).1 pc k = R at *
            refine W_loop (α := Nat) (fun i => [(4, v4), (22, v142), (23, .int .i64 (i : Int))]) (fun i => [(0, F), (501, rowS 9 v142 R)]) (fun i => i ≤ 5) (fun i => 5 - i) (0) (Nat.zero_le _) ⟨rfl, ⟨rfl, ⟨rfl, trivial⟩⟩⟩ ⟨rfl, ⟨rfl, trivial⟩⟩ (fun z hz => ?_)
            refine W_seq ?_
            refine W_seq ?_
            refine W.pre (K' := [(4, _), (22, _), (23, _)]) (L' := [(0, _), (501, _)]) ?_ ⟨rfl, ⟨rfl, ⟨rfl, trivial⟩⟩⟩ ⟨rfl, ⟨rfl, trivial⟩⟩
            refine W_regL (WL_pure rfl rfl (by decide) (Pu_move rfl rfl) (WL_pure rfl rfl (by decide) (Pu_move rfl rfl) (WL_pure rfl rfl (by decide) (Pu_len (r := 501) rfl Tryd.runUnderlying30 rfl rfl rowS_rd) (WL_pure rfl rfl (by decide) (Pu_bin rfl rfl rfl (run_lss _ _ _ _ _ _)) (WL_nil (X_then ?_))))))
            refine W_cond rfl (fun hc146 => ?_) (fun hc146 => ?_)
            ·
              have hlt : z < R.length := by have := of_decide_eq_true hc146; omega
              have hRl := hrl _ (getD_mem hlt)
              have hRs := splitN_len (R.getD z [])
              refine W_skip (X_then ?_)
              refine W_seq ?_
              refine W_block ?_
              refine W_seq ?_
              refine W.pre (K' := [(4, _), (22, _), (23, _), (146, _)]) (L' := [(0, _), (501, _)]) ?_ ⟨rfl, ⟨rfl, ⟨rfl, ⟨rfl, trivial⟩⟩⟩⟩ ⟨rfl, ⟨rfl, trivial⟩⟩
              refine W_regL (WL_pure rfl rfl (by decide) (Pu_move rfl rfl) (WL_pure rfl rfl (by decide) (Pu_move rfl rfl) (WL_pure rfl rfl (by decide) (Pu_idxS1 (r := 501) rfl Tryd.runUnderlying30 Tryd.sizeOf9 rfl rfl rfl rowS_rd (by omega)) (WL_pure rfl rfl (by decide) (Pu_loadS (r := 501) rfl Tryd.isAgg9 rfl rfl rowS_rd (ss_at hlt)) (WL_cons rfl rfl (by decide) (OpT_call 600 [0, 501] [] rfl Tryd.call13 rfl rfl rfl (by decide) (by decide) (split_nspec (R.getD z []) (by omega) _ (tabs_star 0 rfl hT)) (fun v154 Ps154 hR154 => ?_)))))))
              obtain ⟨v154, rfl, rfl⟩ := hR154
              refine (WL_pure rfl rfl (by decide) (Pu_move rfl rfl) (WL_pure rfl rfl (by decide) (Pu_extract rfl rfl rfl) (WL_pure rfl rfl (by decide) (Pu_extract rfl rfl rfl) (WL_pure rfl rfl (by decide) (Pu_assign rfl rfl) (WL_pure rfl rfl (by decide) (Pu_assign rfl rfl) (WL_nil (X_then ?_)))))))
              refine W_seq ?_
              refine W.pre (K' := [(4, _), (22, _), (23, _), (24, _), (25, _), (146, _)]) (L' := [(0, _), (501, _), (600, _)]) ?_ ⟨rfl, ⟨rfl, ⟨rfl, ⟨rfl, ⟨rfl, ⟨rfl, trivial⟩⟩⟩⟩⟩⟩ ⟨rfl, ⟨rfl, ⟨rfl, trivial⟩⟩⟩
              refine W_regL (WL_pure rfl rfl (by decide) (Pu_move rfl rfl) (WL_pure rfl rfl (by decide) (Pu_move rfl rfl) (WL_pure rfl rfl (by decide) (Pu_idxS1 (r := 501) rfl Tryd.runUnderlying30 Tryd.sizeOf9 rfl rfl rfl rowS_rd (by omega)) (WL_pure rfl rfl (by decide) (Pu_loadS (r := 501) rfl Tryd.isAgg9 rfl rfl rowS_rd (ss_at hlt)) (WL_cons rfl rfl (by decide) (OpT_call 700 [0, 501, 600] [] rfl Tryd.call17 rfl rfl rfl (by decide) (by decide) (split_rspec (R.getD z []) (by omega) _) (fun v162 Ps162 hR162 => ?_)))))))
              obtain ⟨v162, rfl, rfl⟩ := hR162
              refine (WL_pure rfl rfl (by decide) (Pu_move rfl rfl) (WL_pure rfl rfl (by decide) (Pu_extract rfl rfl rfl) (WL_pure rfl rfl (by decide) (Pu_extract rfl rfl rfl) (WL_pure rfl rfl (by decide) (Pu_assign rfl rfl) (WL_pure rfl rfl (by decide) (Pu_assign rfl rfl) (WL_nil (X_then ?_)))))))
              refine W_seq ?_
              refine W_seq ?_
              refine W.pre (K' := [(4, _), (22, _), (23, _), (24, _), (25, _), (26, _), (27, _), (146, _)]) (L' := [(0, _), (501, _), (600, _), (700, _)]) ?_ ⟨rfl, ⟨rfl, ⟨rfl, ⟨rfl, ⟨rfl, ⟨rfl, ⟨rfl, ⟨rfl, trivial⟩⟩⟩⟩⟩⟩⟩⟩ ⟨rfl, ⟨rfl, ⟨rfl, ⟨rfl, trivial⟩⟩⟩⟩
              refine W_regL (WL_pure rfl rfl (by decide) (Pu_move rfl rfl) (WL_pure rfl rfl (by decide) (Pu_move rfl rfl) (WL_cons rfl rfl (by decide) (OpT_call 800 [0, 501, 600, 700] [] rfl Tryd.call16 rfl rfl rfl (by decide) (by decide) (same_spec v154 v162 (splitN (R.getD z [])).1 (splitN (R.getD z [])).1 (by omega) _ (rd_star 2 rfl rowS_rd) (rd_star 3 rfl rowS_rd)) (fun v167 Ps167 hR167 => ?_)))))
              obtain ⟨rfl, rfl⟩ := hR167
              refine (WL_pure rfl rfl (by decide) (Pu_un rfl rfl (run_not _)) (WL_pure rfl rfl (by decide) (Pu_move rfl rfl) (WL_guardP rfl rfl rfl rfl (by decide) (fun hb => (Pu_move rfl rfl)) (WL_guardP rfl rfl rfl rfl (by decide) (fun hb => (Pu_move rfl rfl)) (WL_guardP rfl rfl rfl rfl (by decide) (fun hb => (Pu_bin rfl (ev_gv rfl hb) (ev_gv rfl hb) (run_neq _ _ _ _ _ _))) (WL_pure rfl rfl (by decide) (Pu_or rfl rfl rfl) (WL_nil (X_then ?_))))))))
              refine W_false rfl (by simp) ?_
              refine W_skip (X_then ?_)
              refine W_seq ?_
              refine W.pre (K' := [(4, _), (22, _), (23, _), (24, _), (25, _), (26, _), (27, _), (146, _), (173, _)]) (L' := [(0, _), (501, _), (600, _), (700, _)]) ?_ ⟨rfl, ⟨rfl, ⟨rfl, ⟨rfl, ⟨rfl, ⟨rfl, ⟨rfl, ⟨rfl, ⟨rfl, trivial⟩⟩⟩⟩⟩⟩⟩⟩⟩ ⟨rfl, ⟨rfl, ⟨rfl, ⟨rfl, trivial⟩⟩⟩⟩
              refine W_regL (WL_pure rfl rfl (by decide) (Pu_move rfl rfl) (WL_pure rfl rfl (by decide) (Pu_bin rfl rfl rfl (run_eql _ _ _ _ _ _)) (WL_nil (X_then ?_))))
              refine W_cond rfl (fun hc175 => ?_) (fun hc175 => ?_)
              ·
                have hg0 : (splitN (R.getD z [])).2 = 0 := by have := of_decide_eq_true hc175; omega
                have hjs := join_split hg0
                have hjn := jn_split hg0
                refine W_seq ?_
                refine W.pre (K' := [(4, _), (22, _), (23, _), (24, _), (25, _), (26, _), (27, _), (146, _), (173, _), (175, _)]) (L' := [(0, _), (501, _), (600, _), (700, _)]) ?_ ⟨rfl, ⟨rfl, ⟨rfl, ⟨rfl, ⟨rfl, ⟨rfl, ⟨rfl, ⟨rfl, ⟨rfl, ⟨rfl, trivial⟩⟩⟩⟩⟩⟩⟩⟩⟩⟩ ⟨rfl, ⟨rfl, ⟨rfl, ⟨rfl, trivial⟩⟩⟩⟩
                refine W_regL (WL_pure rfl rfl (by decide) (Pu_move rfl rfl) (WL_cons rfl rfl (by decide) (OpT_call 900 [0, 501, 600, 700] [] rfl Tryd.call14 rfl rfl rfl (by decide) (by decide) (join_nspec v154 (splitN (R.getD z [])).1 (by omega) _ (rd_star 2 rfl rowS_rd) (tabs_star 0 rfl hT)) (fun v178 Ps178 hR178 => ?_))))
                obtain ⟨rfl, rfl⟩ := hR178
                rw [hjs]
                refine (WL_pure rfl rfl (by decide) (Pu_move rfl rfl) (WL_pure rfl rfl (by decide) (Pu_extract rfl rfl rfl) (WL_pure rfl rfl (by decide) (Pu_extract rfl rfl rfl) (WL_pure rfl rfl (by decide) (Pu_assign rfl rfl) (WL_pure rfl rfl (by decide) (Pu_assign rfl rfl) (WL_nil (X_then ?_)))))))
                refine W_seq ?_
                refine W.pre (K' := [(4, _), (22, _), (23, _), (24, _), (25, _), (26, _), (27, _), (28, _), (29, _), (146, _), (173, _), (175, _)]) (L' := [(0, _), (501, _), (600, _), (700, _)]) ?_ ⟨rfl, ⟨rfl, ⟨rfl, ⟨rfl, ⟨rfl, ⟨rfl, ⟨rfl, ⟨rfl, ⟨rfl, ⟨rfl, ⟨rfl, ⟨rfl, trivial⟩⟩⟩⟩⟩⟩⟩⟩⟩⟩⟩⟩ ⟨rfl, ⟨rfl, ⟨rfl, ⟨rfl, trivial⟩⟩⟩⟩
                refine W_regL (WL_pure rfl rfl (by decide) (Pu_move rfl rfl) (WL_pure rfl rfl (by decide) (Pu_bin rfl rfl rfl (run_neq _ _ _ _ _ _)) (WL_pure rfl rfl (by decide) (Pu_move rfl rfl) (WL_gPT rfl rfl rfl rfl rfl (by decide) (Pu_move rfl rfl) (WL_gPT rfl rfl rfl rfl rfl (by decide) (Pu_move rfl rfl) (WL_gPT rfl rfl rfl rfl rfl (by decide) (Pu_move rfl rfl) (WL_gPT rfl rfl rfl rfl rfl (by decide) (Pu_idxS1 (r := 501) rfl Tryd.runUnderlying30 Tryd.sizeOf9 rfl rfl rfl rowS_rd (by omega)) (WL_gPT rfl rfl rfl rfl rfl (by decide) (Pu_loadS (r := 501) rfl Tryd.isAgg9 rfl rfl rowS_rd (ss_at hlt)) (WL_gPT rfl rfl rfl rfl rfl (by decide) (Pu_bin rfl rfl rfl (run_strNe _ _ _ _ _)) (WL_pure rfl rfl (by decide) (Pu_pickF rfl rfl rfl rfl) (WL_nil (X_then ?_))))))))))))
                refine W_false rfl (by simp) ?_
                refine W_skip (X_block (X_then ?_))
                refine W.pre (K' := [(4, _), (22, _), (23, _), (24, _), (25, _), (26, _), (27, _), (28, _), (29, _), (146, _), (173, _), (175, _), (190, _)]) (L' := [(0, _), (501, _), (600, _), (700, _)]) ?_ ⟨rfl, ⟨rfl, ⟨rfl, ⟨rfl, ⟨rfl, ⟨rfl, ⟨rfl, ⟨rfl, ⟨rfl, ⟨rfl, ⟨rfl, ⟨rfl, ⟨rfl, trivial⟩⟩⟩⟩⟩⟩⟩⟩⟩⟩⟩⟩⟩ ⟨rfl, ⟨rfl, ⟨rfl, ⟨rfl, trivial⟩⟩⟩⟩
                refine W_regL (WL_pure rfl rfl (by decide) (Pu_move rfl rfl) (WL_pure rfl rfl (by decide) (Pu_bin rfl rfl rfl (run_add _ _ _ _ _ (by omega))) (WL_pure rfl rfl (by decide) (Pu_assign rfl rfl) (WL_nil ?_))))
                exact X_round (z + 1) (by omega) (by omega) ⟨rfl, rfl, rfl, trivial⟩ ⟨rfl, rfl, trivial⟩
              ·
                refine W_skip (X_block (X_then ?_))
                refine W.pre (K' := [(4, _), (22, _), (23, _), (24, _), (25, _), (26, _), (27, _), (146, _), (173, _), (175, _)]) (L' := [(0, _), (501, _), (600, _), (700, _)]) ?_ ⟨rfl, ⟨rfl, ⟨rfl, ⟨rfl, ⟨rfl, ⟨rfl, ⟨rfl, ⟨rfl, ⟨rfl, ⟨rfl, trivial⟩⟩⟩⟩⟩⟩⟩⟩⟩⟩ ⟨rfl, ⟨rfl, ⟨rfl, ⟨rfl, trivial⟩⟩⟩⟩
                refine W_regL (WL_pure rfl rfl (by decide) (Pu_move rfl rfl) (WL_pure rfl rfl (by decide) (Pu_bin rfl rfl rfl (run_add _ _ _ _ _ (by omega))) (WL_pure rfl rfl (by decide) (Pu_assign rfl rfl) (WL_nil ?_))))
                exact X_round (z + 1) (by omega) (by omega) ⟨rfl, rfl, rfl, trivial⟩ ⟨rfl, rfl, trivial⟩
            ·
              refine W_exit (X_then_exit (X_then_exit (X_block_exit (X_then ?_))))
              refine W_seq ?_
              refine W.pre (K' := [(4, _), (22, _), (23, _), (146, _)]) (L' := [(0, _), (501, _)]) ?_ ⟨rfl, ⟨rfl, ⟨rfl, ⟨rfl, trivial⟩⟩⟩⟩ ⟨rfl, ⟨rfl, trivial⟩⟩
              refine W_regL (WL_pure rfl rfl (by decide) (Pu_move rfl rfl) (WL_cons rfl rfl (by decide) (OpT_call 600 [0, 501] [] rfl Tryd.call14 rfl rfl rfl (by decide) (by decide) (join_nspec v4 raw (by omega) _ (rd_star 0 rfl hR) (tabs_star 0 rfl hT)) (fun v193 Ps193 hR193 => ?_))))
              obtain ⟨rfl, rfl⟩ := hR193
              refine (WL_pure rfl rfl (by decide) (Pu_move rfl rfl) (WL_pure rfl rfl (by decide) (Pu_extract rfl rfl rfl) (WL_pure rfl rfl (by decide) (Pu_extract rfl rfl rfl) (WL_pure rfl rfl (by decide) (Pu_assign rfl rfl) (WL_pure rfl rfl (by decide) (Pu_assign rfl rfl) (WL_nil (X_then ?_)))))))
              refine W_seq ?_
              refine W.pre (K' := [(4, _), (22, _), (23, _), (30, _), (31, _), (146, _)]) (L' := [(0, _), (501, _)]) ?_ ⟨rfl, ⟨rfl, ⟨rfl, ⟨rfl, ⟨rfl, ⟨rfl, trivial⟩⟩⟩⟩⟩⟩ ⟨rfl, ⟨rfl, trivial⟩⟩
              refine W_regL (WL_pure rfl rfl (by decide) (Pu_move rfl rfl) (WL_cons rfl rfl (by decide) (OpT_call 700 [0, 501] [] rfl Tryd.call15 rfl rfl rfl (by decide) (by decide) (join_rspec v4 raw (by omega) _ (rd_star 0 rfl hR)) (fun v198 Ps198 hR198 => ?_))))
              obtain ⟨rfl, rfl⟩ := hR198
              refine (WL_pure rfl rfl (by decide) (Pu_move rfl rfl) (WL_pure rfl rfl (by decide) (Pu_extract rfl rfl rfl) (WL_pure rfl rfl (by decide) (Pu_extract rfl rfl rfl) (WL_pure rfl rfl (by decide) (Pu_assign rfl rfl) (WL_pure rfl rfl (by decide) (Pu_assign rfl rfl) (WL_nil (X_then ?_)))))))
              refine W_seq ?_
              refine W.pre (K' := [(4, _), (22, _), (23, _), (30, _), (31, _), (32, _), (33, _), (146, _)]) (L' := [(0, _), (501, _)]) ?_ ⟨rfl, ⟨rfl, ⟨rfl, ⟨rfl, ⟨rfl, ⟨rfl, ⟨rfl, ⟨rfl, trivial⟩⟩⟩⟩⟩⟩⟩⟩ ⟨rfl, ⟨rfl, trivial⟩⟩
              refine W_regL (WL_pure rfl rfl (by decide) (Pu_move rfl rfl) (WL_pure rfl rfl (by decide) (Pu_move rfl rfl) (WL_pure rfl rfl (by decide) (Pu_bin rfl rfl rfl (run_strEq _ _ _ _ _)) (WL_pure rfl rfl (by decide) (Pu_move rfl rfl) (WL_guardP rfl rfl rfl rfl (by decide) (fun hb => (Pu_move rfl rfl)) (WL_guardP rfl rfl rfl rfl (by decide) (fun hb => (Pu_move rfl rfl)) (WL_guardP rfl rfl rfl rfl (by decide) (fun hb => (Pu_bin rfl (ev_gv rfl hb) (ev_gv rfl hb) (run_eql _ _ _ _ _ _))) (WL_pure rfl rfl (by decide) (Pu_and rfl rfl rfl) (WL_pure rfl rfl (by decide) (Pu_assign rfl rfl) (WL_nil (X_then ?_)))))))))))
              refine W_ret ?_
              exact X_ret [] (Ps := []) (res1 Tryd.results6 rfl) rfl (by decide) ⟨bool_val (by simp), rfl⟩
          exact AHs_nil

theorem namesPaths_any (W : World) (hT : ∀ h, orig W h → tabsP h) (s : List UInt8) (hs : s.length ≤ maxLen) (v1 : Value) (qs : List Q) (hr1 : Rd W 1 v1 qs.length (qs.map (·.1)) ∧ ∀ q ∈ qs, Rd W 1 q.1 q.2.length (is q.2)) (hl1 : qs.length ≤ maxLen)
    (pc : List UInt8) (hp : pc.length ≤ maxLen) (a3 : Int) (lo3 : -9223372036854775808 ≤ a3) (hi3 : a3 ≤ 9223372036854775807) (v4 : Value) (l4 : List (List UInt8)) (hr4 : Rd W 1 v4 l4.length (ss l4)) (hl4 : l4.length ≤ maxLen) :
    Calls Tryd.prog 6 #[sV s, v1, sV pc, .int .i64 a3, v4] W fun e W' => e = .returned (.bool true) ∧ Chg [] W W' :=
  calls_law ((namesPaths_law s v1 qs pc a3 v4 l4 (orig W) (fun h hp => Rd.orig hr1.1 h hp) (fun q hq h hp => Rd.orig (hr1.2 q hq) h hp) (fun h hp => Rd.orig hr4 h hp) hT).imp fun v Ps h => h.1)
end Go.Proofs.YtjiafaiklmbbeaaDoor
