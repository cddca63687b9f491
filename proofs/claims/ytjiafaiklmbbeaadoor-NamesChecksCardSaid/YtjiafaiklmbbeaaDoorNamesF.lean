/- latticelaw3: NamesChecks. -/
import Derived.Test.YtjiafaiklmbbeaaDoorNames2
import Derived.Test.YtjiafaiklmbbeaaDoorTiN
import Derived.Test.YtjiafaiklmbbeaaDoorOpen
namespace Go.Proofs.YtjiafaiklmbbeaaDoor
open Go.RowKit Go.Lib
set_option linter.unusedVariables false
set_option linter.unusedSimpArgs false

theorem namesChecks_law (s : List UInt8) (vl : Value) (zs : List Int) (pc : List UInt8) (at' : Int) (F : HP) (hL : ∀ h, F h → rdN vl zs h) (hT : ∀ h, F h → tabsP h) :
    CallsS Tryd.prog 3 #[sV s, vl, sV pc, .int .i64 at'] F [] (fun r Ps => r = .bool true ∧ Ps = []) := by
  refine callsS_enter Tryd.func3 rfl Tryd.ntmps3 (by simp) (fun E => ?_)
  refine W_seq ?_
  refine W.pre (K' := [(0, _), (1, _), (2, _), (3, _)]) (L' := [(0, _)]) ?_ ⟨rfl, ⟨rfl, ⟨rfl, ⟨rfl, trivial⟩⟩⟩⟩ ⟨rfl, trivial⟩
  refine W_regL (WL_pure rfl rfl (by decide) (Pu_assign rfl rfl) (WL_nil (X_then ?_)))
  refine W_seq ?_
  refine W_seq ?_
  refine W.pre (K' := [(0, _), (1, _), (2, _), (3, _), (8, _)]) (L' := [(0, _)]) ?_ ⟨rfl, ⟨rfl, ⟨rfl, ⟨rfl, ⟨rfl, trivial⟩⟩⟩⟩⟩ ⟨rfl, trivial⟩
  refine W_regL (WL_cons rfl rfl (by decide) (OpT_call 200 [0] [] rfl Tryd.call8 rfl rfl rfl (by decide) (by decide) (known_spec _ (tabs_star 0 rfl hT)) (fun v12 Ps12 hR12 => ?_)))
  obtain ⟨rfl, rfl⟩ := hR12
  refine (WL_pure rfl rfl (by decide) (Pu_un rfl rfl (run_not _)) (WL_nil (X_then ?_)))
  refine W_false rfl (rfl) ?_
  refine W_skip (X_then ?_)
  refine W_seq ?_
  refine W_seq ?_
  refine W.pre (K' := [(0, _), (1, _), (2, _), (3, _), (8, _), (13, _)]) (L' := [(0, _)]) ?_ ⟨rfl, ⟨rfl, ⟨rfl, ⟨rfl, ⟨rfl, ⟨rfl, trivial⟩⟩⟩⟩⟩⟩ ⟨rfl, trivial⟩
  refine W_regL (WL_pure rfl rfl (by decide) (Pu_move rfl rfl) (WL_pure rfl rfl (by decide) (Pu_lenStr rfl Tryd.underlying9 rfl) (WL_pure rfl rfl (by decide) (Pu_bin rfl rfl rfl (run_gtr _ _ _ _ _ _)) (WL_pure rfl rfl (by decide) (Pu_move rfl rfl) (WL_guardP rfl rfl rfl rfl (by decide) (fun hb => (Pu_move rfl rfl)) (WL_guardP rfl rfl rfl rfl (by decide) (fun hb => (Pu_lenStr rfl Tryd.underlying9 (ev_gv rfl hb))) (WL_guardP rfl rfl rfl rfl (by decide) (fun hb => (Pu_bin rfl (ev_gv rfl hb) rfl (run_gtr _ _ _ _ _ _))) (WL_pure rfl rfl (by decide) (Pu_or rfl rfl rfl) (WL_nil (X_then ?_))))))))))
  refine W_cond rfl (fun hc21 => ?_) (fun hc21 => ?_)
  ·
    refine W_seq ?_
    refine W.pre (K' := [(0, _), (1, _), (2, _), (3, _), (8, _), (13, _), (21, _)]) (L' := [(0, _)]) ?_ ⟨rfl, ⟨rfl, ⟨rfl, ⟨rfl, ⟨rfl, ⟨rfl, ⟨rfl, trivial⟩⟩⟩⟩⟩⟩⟩ ⟨rfl, trivial⟩
    refine W_regL (WL_pure rfl rfl (by decide) (Pu_assign rfl rfl) (WL_nil (X_then ?_)))
    refine W_ret (X_then_ret ?_)
    exact X_ret [] (Ps := []) (res1 Tryd.results3 rfl) rfl (by decide) ⟨rfl, rfl⟩
  ·
    simp only [Bool.or_eq_false_iff, decide_eq_false_iff_not] at hc21
    have hs5 : s.length ≤ 500 := by omega
    have hp1 : pc.length ≤ 100 := by omega
    refine W_skip (X_then ?_)
    refine W_seq ?_
    refine W.pre (K' := [(0, _), (1, _), (2, _), (3, _), (8, _), (13, _), (21, _)]) (L' := [(0, _)]) ?_ ⟨rfl, ⟨rfl, ⟨rfl, ⟨rfl, ⟨rfl, ⟨rfl, ⟨rfl, trivial⟩⟩⟩⟩⟩⟩⟩ ⟨rfl, trivial⟩
    refine W_regL (WL_pure rfl rfl (by decide) (Pu_move rfl rfl) (WL_cons rfl rfl (by decide) (OpT_call 300 [0] [] rfl Tryd.call9 rfl rfl rfl (by decide) (by decide) (name_spec vl zs _ (rd_star 0 rfl hL)) (fun v23 Ps23 hR23 => ?_))))
    obtain ⟨rfl, rfl⟩ := hR23
    have hnl := nameN_len zs
    refine (WL_pure rfl rfl (by decide) (Pu_assign rfl rfl) (WL_nil (X_then ?_)))
    refine W_seq ?_
    refine W.pre (K' := [(0, _), (1, _), (2, _), (3, _), (8, _), (9, _), (13, _), (21, _)]) (L' := [(0, _)]) ?_ ⟨rfl, ⟨rfl, ⟨rfl, ⟨rfl, ⟨rfl, ⟨rfl, ⟨rfl, ⟨rfl, trivial⟩⟩⟩⟩⟩⟩⟩⟩ ⟨rfl, trivial⟩
    refine W_regL (WL_pure rfl rfl (by decide) (Pu_move rfl rfl) (WL_pure rfl rfl (by decide) (Pu_move rfl rfl) (WL_pure rfl rfl (by decide) (Pu_lenStr rfl Tryd.underlying9 rfl) (WL_pure rfl rfl (by decide) (Pu_bin rfl rfl rfl (run_add _ _ _ _ _ (by omega))) (WL_cons rfl rfl (by decide) (OpT_call 400 [0] [] rfl Tryd.call10 rfl rfl rfl (by decide) (by decide) (within_spec at' ((nameN zs).length + 1 : Int) (by omega) (by omega) _) (fun v28 Ps28 hR28 => ?_)))))))
    obtain ⟨rfl, rfl⟩ := hR28
    have hm1 := Int.emod_nonneg at' (show ((nameN zs).length + 1 : Int) ≠ 0 by omega)
    have hm2 := Int.emod_lt_of_pos at' (show (0 : Int) < ((nameN zs).length + 1 : Int) by omega)
    obtain ⟨k, hk, hkl⟩ : ∃ k : Nat, at' % ((nameN zs).length + 1 : Int) = (k : Int) ∧ k ≤ (nameN zs).length := ⟨(at' % ((nameN zs).length + 1 : Int)).toNat, by omega, by omega⟩
    rw [hk]
    refine (WL_pure rfl rfl (by decide) (Pu_assign rfl rfl) (WL_nil (X_then ?_)))
    refine W_seq ?_
    refine W.pre (K' := [(0, _), (1, _), (2, _), (3, _), (8, _), (9, _), (10, _), (13, _), (21, _)]) (L' := [(0, _)]) ?_ ⟨rfl, ⟨rfl, ⟨rfl, ⟨rfl, ⟨rfl, ⟨rfl, ⟨rfl, ⟨rfl, ⟨rfl, trivial⟩⟩⟩⟩⟩⟩⟩⟩⟩ ⟨rfl, trivial⟩
    refine W_draw (N := 10) (by kernel_rfl) rfl [(0, _)] ⟨rfl, trivial⟩ ?_
    refine (AH_take 0 rfl (by kernel_rfl) (by kernel_rfl) (by kernel_rfl) rfl rfl (by decide) (Pu_move rfl rfl) (AH_take 1 rfl (by kernel_rfl) (by kernel_rfl) (by kernel_rfl) rfl rfl (by decide) (Pu_move rfl rfl) (AH_take 2 rfl (by kernel_rfl) (by kernel_rfl) (by kernel_rfl) rfl rfl (by decide) (Pu_sliceStrE (b := k) rfl Tryd.underlying9 rfl (.inl ⟨rfl, rfl⟩) (.inr ⟨_, _, _, rfl, rfl, rfl⟩) (Nat.zero_le _) (by omega) (take_front _ _)) (AH_take 3 rfl (by kernel_rfl) (by kernel_rfl) (by kernel_rfl) rfl rfl (by decide) (Pu_move rfl rfl) (AH_take 4 rfl (by kernel_rfl) (by kernel_rfl) (by kernel_rfl) rfl rfl (by decide) (Pu_bin rfl rfl rfl (run_addL _ _ _ _ _ (by simp only [List.length_take]; omega))) (AH_take 5 rfl (by kernel_rfl) (by kernel_rfl) (by kernel_rfl) rfl rfl (by decide) (Pu_move rfl rfl) (AH_take 6 rfl (by kernel_rfl) (by kernel_rfl) (by kernel_rfl) rfl rfl (by decide) (Pu_move rfl rfl) (AH_take 7 rfl (by kernel_rfl) (by kernel_rfl) (by kernel_rfl) rfl rfl (by decide) (Pu_sliceStrE (a := k) rfl Tryd.underlying9 rfl (.inr ⟨_, _, _, rfl, rfl, rfl⟩) (.inl ⟨rfl, rfl⟩) (by omega) (Nat.le_refl _) (take_rest _ _)) (AH_take 8 rfl (by kernel_rfl) (by kernel_rfl) (by kernel_rfl) rfl rfl (by decide) (Pu_bin rfl rfl rfl (run_addL _ _ _ _ _ (by simp only [List.length_append, List.length_take, List.length_drop]; omega))) (AH_take 9 rfl (by kernel_rfl) (by kernel_rfl) (by kernel_rfl) rfl rfl (by decide) (Pu_assign rfl rfl) (AH_done (by kernel_rfl) (X_then ?_))))))))))))
    refine W_seq ?_
    refine W.pre (K' := [(0, _), (1, _), (2, _), (3, _), (8, _), (9, _), (10, _), (11, _), (13, _), (21, _)]) (L' := [(0, _)]) ?_ ⟨rfl, ⟨rfl, ⟨rfl, ⟨rfl, ⟨rfl, ⟨rfl, ⟨rfl, ⟨rfl, ⟨rfl, ⟨rfl, trivial⟩⟩⟩⟩⟩⟩⟩⟩⟩⟩ ⟨rfl, trivial⟩
    obtain ⟨tt, htt⟩ : ∃ tt, (nameN zs).take k ++ pc ++ (nameN zs).drop k = tt := ⟨_, rfl⟩
    have htl : tt.length ≤ 200 := by rw [← htt]; simp only [List.length_append, List.length_take, List.length_drop]; omega
    rw [htt]
    refine W_regL (WL_pure rfl rfl (by decide) (Pu_move rfl rfl) (WL_cons rfl rfl (by decide) (OpT_call 500 [0] [] rfl Tryd.call11 rfl rfl rfl (by decide) (by decide) (check_spec s (by omega) _ (tabs_star 0 rfl hT)) (fun v39 Ps39 hR39 => ?_))))
    obtain ⟨rfl, rfl⟩ := hR39
    refine (WL_pure rfl rfl (by decide) (Pu_move rfl rfl) (WL_cons rfl rfl (by decide) (OpT_call 600 [0] [] rfl Tryd.call12 rfl rfl rfl (by decide) (by decide) (check_rspec s (by omega) _) (fun v41 Ps41 hR41 => ?_))))
    obtain ⟨rfl, rfl⟩ := hR41
    refine (WL_pure rfl rfl (by decide) (Pu_bin rfl rfl rfl (run_eql _ _ _ _ _ _)) (WL_pure rfl rfl (by decide) (Pu_move rfl rfl) (WL_gPT rfl rfl rfl (by simp) rfl (by decide) (Pu_move rfl rfl) (WL_gT rfl rfl rfl (by simp) rfl (by decide) (OpT_call 700 [0] [] rfl Tryd.call11 rfl rfl rfl (by decide) (by decide) (check_spec (nameN zs) (by omega) _ (tabs_star 0 rfl hT)) (fun v45 Ps45 hR45 => ?_))))))
    obtain ⟨rfl, rfl⟩ := hR45
    refine (WL_gPT rfl rfl rfl (by simp) rfl (by decide) (Pu_bin rfl rfl rfl (run_eql _ _ _ _ _ _)) (WL_pure rfl rfl (by decide) (Pu_pickT rfl rfl (by simp) rfl) (WL_pure rfl rfl (by decide) (Pu_move rfl rfl) (WL_gPT rfl rfl rfl (by rw [check_name]; rfl) rfl (by decide) (Pu_move rfl rfl) (WL_gT rfl rfl rfl (by rw [check_name]; rfl) rfl (by decide) (OpT_call 800 [0] [] rfl Tryd.call11 rfl rfl rfl (by decide) (by decide) (check_spec tt (by omega) _ (tabs_star 0 rfl hT)) (fun v50 Ps50 hR50 => ?_)))))))
    obtain ⟨rfl, rfl⟩ := hR50
    refine (WL_gPT rfl rfl rfl (by rw [check_name]; rfl) rfl (by decide) (Pu_move rfl rfl) (WL_gT rfl rfl rfl (by rw [check_name]; rfl) rfl (by decide) (OpT_call 900 [0] [] rfl Tryd.call12 rfl rfl rfl (by decide) (by decide) (check_rspec tt (by omega) _) (fun v52 Ps52 hR52 => ?_))))
    obtain ⟨rfl, rfl⟩ := hR52
    refine (WL_gPT rfl rfl rfl (by rw [check_name]; rfl) rfl (by decide) (Pu_bin rfl rfl rfl (run_eql _ _ _ _ _ _)) (WL_pure rfl rfl (by decide) (Pu_pickT rfl rfl (by rw [check_name]; rfl) rfl) (WL_pure rfl rfl (by decide) (Pu_assign rfl rfl) (WL_nil (X_then ?_)))))
    refine W_ret ?_
    exact X_ret [] (Ps := []) (res1 Tryd.results3 rfl) rfl (by decide) ⟨bool_val (by simp), rfl⟩

theorem namesChecks_any (W : World) (hT : ∀ h, orig W h → tabsP h) (s : List UInt8) (hs : s.length ≤ maxLen) (v1 : Value) (l1 : List Int) (hr1 : RdI W v1 l1) (hz1 : I64 l1) (hl1 : l1.length ≤ maxLen) (pc : List UInt8) (hp : pc.length ≤ maxLen) (a3 : Int) (lo3 : -9223372036854775808 ≤ a3) (hi3 : a3 ≤ 9223372036854775807) :
    Calls Tryd.prog 3 #[sV s, v1, sV pc, .int .i64 a3] W fun e W' => e = .returned (.bool true) ∧ Chg [] W W' :=
  calls_law ((namesChecks_law s v1 l1 pc a3 (orig W) (fun h hp => Rd.orig hr1 h hp) hT).imp fun v Ps h => h.1)
end Go.Proofs.YtjiafaiklmbbeaaDoor
