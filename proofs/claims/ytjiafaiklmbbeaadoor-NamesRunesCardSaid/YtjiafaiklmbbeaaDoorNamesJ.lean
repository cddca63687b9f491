/- latticelaw3: NamesRunes. -/
import Derived.Test.YtjiafaiklmbbeaaDoorNames5
import Derived.Test.YtjiafaiklmbbeaaDoorTiN
namespace Go.Proofs.YtjiafaiklmbbeaaDoor
open Go.RowKit Go.Lib
set_option linter.unusedVariables false
set_option linter.unusedSimpArgs false

theorem want_eq (m : Nat) : (((decide ((m : Int) < 32) || decide ((m : Int) = 127)) || decide ((m : Int) = 47)) || decide ((m : Int) = 46)) = (wrongR m || decide (m = 46)) := by
  rw [wrongR_eq]
  congr 1
  exact decide_eq_decide.2 (by omega)
theorem want_yes {m : Nat} (h : (((decide ((m : Int) < 32) || decide ((m : Int) = 127)) || decide ((m : Int) = 47)) || decide ((m : Int) = 46)) = true) : m = 46 ∨ wrongR m = true := by
  rw [want_eq] at h
  simp only [Bool.or_eq_true, decide_eq_true_eq] at h
  exact h.symm
theorem want_no {m : Nat} (h : (((decide ((m : Int) < 32) || decide ((m : Int) = 127)) || decide ((m : Int) = 47)) || decide ((m : Int) = 46)) = false) : ¬ (m = 46 ∨ wrongR m = true) := by
  rw [want_eq] at h
  simp only [Bool.or_eq_false_iff, decide_eq_false_iff_not] at h
  rintro (h1 | h1)
  · exact h.2 h1
  · rw [h.1] at h1; cases h1
theorem namesRunes_law (n : Int) (F : HP) (hT : ∀ h, F h → tabsP h) :
    CallsS Tryd.prog 5 #[.int .i64 n] F [] (fun r Ps => r = .bool true ∧ Ps = []) := by
  refine callsS_enter Tryd.func5 rfl Tryd.ntmps5 (by simp) (fun E => ?_)
  refine W_seq ?_
  refine W.pre (K' := [(0, _)]) (L' := [(0, _)]) ?_ ⟨rfl, trivial⟩ ⟨rfl, trivial⟩
  refine W_regL (WL_pure rfl rfl (by decide) (Pu_assign rfl rfl) (WL_nil (X_then ?_)))
  refine W_seq ?_
  refine W_seq ?_
  refine W.pre (K' := [(0, _), (2, _)]) (L' := [(0, _)]) ?_ ⟨rfl, ⟨rfl, trivial⟩⟩ ⟨rfl, trivial⟩
  refine W_regL (WL_cons rfl rfl (by decide) (OpT_call 200 [0] [] rfl Tryd.call8 rfl rfl rfl (by decide) (by decide) (known_spec _ (tabs_star 0 rfl hT)) (fun v7 Ps7 hR7 => ?_)))
  obtain ⟨rfl, rfl⟩ := hR7
  refine (WL_pure rfl rfl (by decide) (Pu_un rfl rfl (run_not _)) (WL_nil (X_then ?_)))
  refine W_false rfl (rfl) ?_
  refine W_skip (X_then ?_)
  refine W_seq ?_
  refine W.pre (K' := [(0, _), (2, _), (8, _)]) (L' := [(0, _)]) ?_ ⟨rfl, ⟨rfl, ⟨rfl, trivial⟩⟩⟩ ⟨rfl, trivial⟩
  refine W_regL (WL_pure rfl rfl (by decide) (Pu_move rfl rfl) (WL_cons rfl rfl (by decide) (OpT_call 300 [0] [] rfl Tryd.call10 rfl rfl rfl (by decide) (by decide) (within_spec n 1114112 (by omega) (by omega) _) (fun v10 Ps10 hR10 => ?_))))
  obtain ⟨rfl, rfl⟩ := hR10
  obtain ⟨m, hm, hm4⟩ : ∃ m : Nat, n % 1114112 = (m : Int) ∧ m < 1114112 := ⟨(n % 1114112).toNat, by omega, by omega⟩
  rw [hm]
  refine (WL_pure rfl rfl (by decide) (Pu_assign rfl rfl) (WL_nil (X_then ?_)))
  refine W_seq ?_
  refine W_seq ?_
  refine W.pre (K' := [(0, _), (2, _), (8, _)]) (L' := [(0, _)]) ?_ ⟨rfl, ⟨rfl, ⟨rfl, trivial⟩⟩⟩ ⟨rfl, trivial⟩
  refine W_regL (WL_pure rfl rfl (by decide) (Pu_move rfl rfl) (WL_pure rfl rfl (by decide) (Pu_bin rfl rfl rfl (run_geq _ _ _ _ _ _)) (WL_pure rfl rfl (by decide) (Pu_move rfl rfl) (WL_guardP rfl rfl rfl rfl (by decide) (fun hb => (Pu_move rfl rfl)) (WL_guardP rfl rfl rfl rfl (by decide) (fun hb => (Pu_bin rfl (ev_gv rfl hb) rfl (run_leq _ _ _ _ _ _))) (WL_pure rfl rfl (by decide) (Pu_and rfl rfl rfl) (WL_nil (X_then ?_))))))))
  refine W_cond rfl (fun hc16 => ?_) (fun hc16 => ?_)
  ·
    simp only [Bool.and_eq_true, decide_eq_true_eq] at hc16
    have hs : 55296 ≤ m ∧ m ≤ 57343 := by omega
    refine W_seq ?_
    refine W.pre (K' := [(0, _), (2, _), (8, _), (16, _)]) (L' := [(0, _)]) ?_ ⟨rfl, ⟨rfl, ⟨rfl, ⟨rfl, trivial⟩⟩⟩⟩ ⟨rfl, trivial⟩
    refine W_regL (WL_pure rfl rfl (by decide) (Pu_move rfl rfl) (WL_pure rfl rfl (by decide) (Pu_bin rfl rfl rfl (run_shr _ 12 _ _ _ (by omega))) (WL_pure rfl rfl (by decide) (Pu_conv rfl rfl (conv_byte _ _ Tryd.runUnderlying3 Tryd.runUnderlying5)) (WL_pure rfl rfl (by decide) (Pu_bin rfl rfl rfl (run_or224 _ (by rw [Int.fdiv_eq_ediv_of_nonneg _ (by omega)]; omega) _ _ _)) (WL_pure rfl rfl (by decide) (Pu_move rfl rfl) (WL_pure rfl rfl (by decide) (Pu_bin rfl rfl rfl (run_shr _ 6 _ _ _ (by omega))) (WL_pure rfl rfl (by decide) (Pu_bin rfl rfl rfl (run_andI63 _ (by rw [Int.fdiv_eq_ediv_of_nonneg _ (by omega)]; omega) (by rw [Int.fdiv_eq_ediv_of_nonneg _ (by omega)]; omega) _ _ _)) (WL_pure rfl rfl (by decide) (Pu_conv rfl rfl (conv_byte _ _ Tryd.runUnderlying3 Tryd.runUnderlying5)) (WL_pure rfl rfl (by decide) (Pu_bin rfl rfl rfl (run_or128 (m / 64 % 64) (by omega) _ (by rw [Int.fdiv_eq_ediv_of_nonneg _ (by omega)]; omega) _ _ _)) (WL_pure rfl rfl (by decide) (Pu_move rfl rfl) (WL_pure rfl rfl (by decide) (Pu_bin rfl rfl rfl (run_andI63 _ (by omega) (by omega) _ _ _)) (WL_pure rfl rfl (by decide) (Pu_conv rfl rfl (conv_byte _ _ Tryd.runUnderlying3 Tryd.runUnderlying5)) (WL_pure rfl rfl (by decide) (Pu_bin rfl rfl rfl (run_or128 (m % 64) (by omega) _ (by omega) _ _ _)) (WL_cons rfl rfl (by decide) (OpT_buildOnes (r := 301) (bs (surL m)) rfl rfl Tryd.runUnderlying35 Tryd.sizeOf5 Tryd.zeroValue5 rfl rfl (by decide) rfl (bs_cells _) (fun v30 => (WL_pure rfl rfl (by decide) (Pu_convBS (r := 301) rfl Tryd.underlying35 Tryd.underlying5 Tryd.underlying9 rfl rfl (fun h hp => rdP_cast (rowP_rd hp) rfl rfl)) (WL_cons rfl rfl (by decide) (OpT_call 400 [0, 301] [] rfl Tryd.call11 rfl rfl rfl (by decide) (by decide) (check_spec (surL m) (by simp [surL]) _ (tabs_star 0 rfl hT)) (fun v32 Ps32 hR32 => ?_))))))))))))))))))))
    obtain ⟨rfl, rfl⟩ := hR32
    rw [check_sur hs]
    refine (WL_pure rfl rfl (by decide) (Pu_bin rfl rfl rfl (run_eql _ _ _ _ _ _)) (WL_pure rfl rfl (by decide) (Pu_assign rfl rfl) (WL_nil (X_then ?_))))
    refine W_ret (X_then_ret ?_)
    exact X_ret [] (Ps := []) (res1 Tryd.results5 rfl) rfl (by decide) ⟨rfl, rfl⟩
  ·
    simp only [Bool.and_eq_false_iff, decide_eq_false_iff_not] at hc16
    have hg : good m := by unfold good; omega
    have hce := check_enc hg
    have hse := split_encx hg
    have hel := enc_len m
    have hw := wrongR_eq m
    refine W_skip (X_then ?_)
    refine W_seq ?_
    refine W.pre (K' := [(0, _), (2, _), (8, _), (16, _)]) (L' := [(0, _)]) ?_ ⟨rfl, ⟨rfl, ⟨rfl, ⟨rfl, trivial⟩⟩⟩⟩ ⟨rfl, trivial⟩
    refine W_regL (WL_pure rfl rfl (by decide) (Pu_move rfl rfl) (WL_pure rfl rfl (by decide) (Pu_conv rfl rfl (conv_rune m (by omega) Tryd.runUnderlying3 Tryd.runUnderlying21)) (WL_cons rfl rfl (by decide) (OpT_buildOnes (r := 301) [.int .i32 (m : Int)] rfl rfl Tryd.runUnderlying36 Tryd.sizeOf21 Tryd.zeroValue21 rfl rfl (by decide) rfl (by simp [Value.cells]) (fun v36 => (WL_pure rfl rfl (by decide) (Pu_convRS (c := m) (r := 301) rfl Tryd.underlying36 Tryd.underlying21 Tryd.underlying9 rfl rfl (fun h hp => rowP_rd hp) hg) (WL_pure rfl rfl (by decide) (Pu_assign rfl rfl) (WL_nil (X_then ?_)))))))))
    refine W_seq ?_
    refine W.pre (K' := [(0, _), (2, _), (3, _), (8, _), (16, _)]) (L' := [(0, _), (301, _)]) ?_ ⟨rfl, ⟨rfl, ⟨rfl, ⟨rfl, ⟨rfl, trivial⟩⟩⟩⟩⟩ ⟨rfl, ⟨rfl, trivial⟩⟩
    refine W_regL (WL_pure rfl rfl (by decide) (Pu_assign rfl rfl) (WL_nil (X_then ?_)))
    refine W_seq ?_
    refine W_seq ?_
    refine W.pre (K' := [(0, _), (2, _), (3, _), (4, _), (8, _), (16, _)]) (L' := [(0, _), (301, _)]) ?_ ⟨rfl, ⟨rfl, ⟨rfl, ⟨rfl, ⟨rfl, ⟨rfl, trivial⟩⟩⟩⟩⟩⟩ ⟨rfl, ⟨rfl, trivial⟩⟩
    refine W_regL (WL_pure rfl rfl (by decide) (Pu_move rfl rfl) (WL_pure rfl rfl (by decide) (Pu_bin rfl rfl rfl (run_lss _ _ _ _ _ _)) (WL_pure rfl rfl (by decide) (Pu_move rfl rfl) (WL_guardP rfl rfl rfl rfl (by decide) (fun hb => (Pu_move rfl rfl)) (WL_guardP rfl rfl rfl rfl (by decide) (fun hb => (Pu_bin rfl (ev_gv rfl hb) rfl (run_eql _ _ _ _ _ _))) (WL_pure rfl rfl (by decide) (Pu_or rfl rfl rfl) (WL_pure rfl rfl (by decide) (Pu_move rfl rfl) (WL_guardP rfl rfl rfl rfl (by decide) (fun hb => (Pu_move rfl rfl)) (WL_guardP rfl rfl rfl rfl (by decide) (fun hb => (Pu_bin rfl (ev_gv rfl hb) rfl (run_eql _ _ _ _ _ _))) (WL_pure rfl rfl (by decide) (Pu_or rfl rfl rfl) (WL_pure rfl rfl (by decide) (Pu_move rfl rfl) (WL_guardP rfl rfl rfl rfl (by decide) (fun hb => (Pu_move rfl rfl)) (WL_guardP rfl rfl rfl rfl (by decide) (fun hb => (Pu_bin rfl (ev_gv rfl hb) rfl (run_eql _ _ _ _ _ _))) (WL_pure rfl rfl (by decide) (Pu_or rfl rfl rfl) (WL_nil (X_then ?_))))))))))))))))
    refine W_cond rfl (fun hc51 => ?_) (fun hc51 => ?_)
    ·
      have hwant : m = 46 ∨ wrongR m = true := want_yes hc51
      refine W.pre (K' := [(0, _), (2, _), (3, _), (4, _), (8, _), (16, _), (51, _)]) (L' := [(0, _), (301, _)]) ?_ ⟨rfl, ⟨rfl, ⟨rfl, ⟨rfl, ⟨rfl, ⟨rfl, ⟨rfl, trivial⟩⟩⟩⟩⟩⟩⟩ ⟨rfl, ⟨rfl, trivial⟩⟩
      refine W_regL (WL_pure rfl rfl (by decide) (Pu_assign rfl rfl) (WL_nil (X_then ?_)))
      refine W_seq ?_
      refine W.pre (K' := [(0, _), (2, _), (3, _), (4, _), (8, _), (16, _), (51, _)]) (L' := [(0, _), (301, _)]) ?_ ⟨rfl, ⟨rfl, ⟨rfl, ⟨rfl, ⟨rfl, ⟨rfl, ⟨rfl, trivial⟩⟩⟩⟩⟩⟩⟩ ⟨rfl, ⟨rfl, trivial⟩⟩
      refine W_regL (WL_pure rfl rfl (by decide) (Pu_move rfl rfl) (WL_pure rfl rfl (by decide) (Pu_bin rfl rfl rfl (run_addL _ _ _ _ _ (by simp only [List.length_cons, List.length_nil]; omega))) (WL_pure rfl rfl (by decide) (Pu_bin rfl rfl rfl (run_addL _ _ _ _ _ (by simp only [List.length_append, List.length_cons, List.length_nil]; omega))) (WL_cons rfl rfl (by decide) (OpT_call 400 [0, 301] [] rfl Tryd.call13 rfl rfl rfl (by decide) (by decide) (split_nspec ([47] ++ encL m ++ [120]) (by simp only [List.length_append, List.length_cons, List.length_nil]; omega) _ (tabs_star 0 rfl hT)) (fun v56 Ps56 hR56 => ?_))))))
      obtain ⟨v56, rfl, rfl⟩ := hR56
      rw [hse]
      refine (WL_pure rfl rfl (by decide) (Pu_move rfl rfl) (WL_pure rfl rfl (by decide) (Pu_extract rfl rfl rfl) (WL_pure rfl rfl (by decide) (Pu_extract rfl rfl rfl) (WL_pure rfl rfl (by decide) (Pu_assign rfl rfl) (WL_pure rfl rfl (by decide) (Pu_assign rfl rfl) (WL_nil (X_then ?_)))))))
      refine W_seq ?_
      refine W_seq ?_
      refine W.pre (K' := [(0, _), (2, _), (3, _), (4, _), (6, _), (8, _), (16, _), (51, _)]) (L' := [(0, _), (301, _), (400, _)]) ?_ ⟨rfl, ⟨rfl, ⟨rfl, ⟨rfl, ⟨rfl, ⟨rfl, ⟨rfl, ⟨rfl, trivial⟩⟩⟩⟩⟩⟩⟩⟩ ⟨rfl, ⟨rfl, ⟨rfl, trivial⟩⟩⟩
      refine W_regL (WL_pure rfl rfl (by decide) (Pu_move rfl rfl) (WL_pure rfl rfl (by decide) (Pu_bin rfl rfl rfl (run_eql _ _ _ _ _ _)) (WL_nil (X_then ?_))))
      refine W_cond rfl (fun hc60 => ?_) (fun hc60 => ?_)
      ·
        have h46 : m = 46 := by have := of_decide_eq_true hc60; omega
        refine W_seq ?_
        refine W.pre (K' := [(0, _), (2, _), (3, _), (4, _), (6, _), (8, _), (16, _), (51, _), (60, _)]) (L' := [(0, _), (301, _), (400, _)]) ?_ ⟨rfl, ⟨rfl, ⟨rfl, ⟨rfl, ⟨rfl, ⟨rfl, ⟨rfl, ⟨rfl, ⟨rfl, trivial⟩⟩⟩⟩⟩⟩⟩⟩⟩ ⟨rfl, ⟨rfl, ⟨rfl, trivial⟩⟩⟩
        refine W_regL (WL_pure rfl rfl (by decide) (Pu_move rfl rfl) (WL_cons rfl rfl (by decide) (OpT_call 500 [0, 301, 400] [] rfl Tryd.call11 rfl rfl rfl (by decide) (by decide) (check_spec (encL m) (by omega) _ (tabs_star 0 rfl hT)) (fun v62 Ps62 hR62 => ?_))))
        obtain ⟨rfl, rfl⟩ := hR62
        rw [hce]
        refine (WL_pure rfl rfl (by decide) (Pu_move rfl rfl) (WL_pure rfl rfl (by decide) (Pu_bin rfl rfl rfl (run_eql _ _ _ _ _ _)) (WL_pure rfl rfl (by decide) (Pu_move rfl rfl) (WL_guardP rfl rfl rfl rfl (by decide) (fun hb => (Pu_move rfl rfl)) (WL_guardP rfl rfl rfl rfl (by decide) (fun hb => (Pu_bin rfl (ev_gv rfl hb) rfl (run_eql _ _ _ _ _ _))) (WL_pure rfl rfl (by decide) (Pu_and rfl rfl rfl) (WL_pure rfl rfl (by decide) (Pu_assign rfl rfl) (WL_nil (X_then ?_)))))))))
        refine W_ret (X_then_ret ?_)
        exact X_ret [] (Ps := []) (res1 Tryd.results5 rfl) rfl (by decide) ⟨bool_val (by rw [if_pos hwant, if_neg (by rw [h46]; decide)]; rfl), rfl⟩
      ·
        have h46 : ¬ m = 46 := by have := of_decide_eq_false hc60; omega
        refine W_skip (X_then ?_)
        refine W_seq ?_
        refine W_seq ?_
        refine W.pre (K' := [(0, _), (2, _), (3, _), (4, _), (6, _), (8, _), (16, _), (51, _), (60, _)]) (L' := [(0, _), (301, _), (400, _)]) ?_ ⟨rfl, ⟨rfl, ⟨rfl, ⟨rfl, ⟨rfl, ⟨rfl, ⟨rfl, ⟨rfl, ⟨rfl, trivial⟩⟩⟩⟩⟩⟩⟩⟩⟩ ⟨rfl, ⟨rfl, ⟨rfl, trivial⟩⟩⟩
        refine W_regL (WL_pure rfl rfl (by decide) (Pu_move rfl rfl) (WL_pure rfl rfl (by decide) (Pu_bin rfl rfl rfl (run_eql _ _ _ _ _ _)) (WL_nil (X_then ?_))))
        refine W_cond rfl (fun hc70 => ?_) (fun hc70 => ?_)
        ·
          have h47 : m = 47 := by have := of_decide_eq_true hc70; omega
          refine W_seq ?_
          refine W.pre (K' := [(0, _), (2, _), (3, _), (4, _), (6, _), (8, _), (16, _), (51, _), (60, _), (70, _)]) (L' := [(0, _), (301, _), (400, _)]) ?_ ⟨rfl, ⟨rfl, ⟨rfl, ⟨rfl, ⟨rfl, ⟨rfl, ⟨rfl, ⟨rfl, ⟨rfl, ⟨rfl, trivial⟩⟩⟩⟩⟩⟩⟩⟩⟩⟩ ⟨rfl, ⟨rfl, ⟨rfl, trivial⟩⟩⟩
          refine W_regL (WL_pure rfl rfl (by decide) (Pu_move rfl rfl) (WL_cons rfl rfl (by decide) (OpT_call 500 [0, 301, 400] [] rfl Tryd.call11 rfl rfl rfl (by decide) (by decide) (check_spec (encL m) (by omega) _ (tabs_star 0 rfl hT)) (fun v72 Ps72 hR72 => ?_))))
          obtain ⟨rfl, rfl⟩ := hR72
          rw [hce]
          refine (WL_pure rfl rfl (by decide) (Pu_move rfl rfl) (WL_pure rfl rfl (by decide) (Pu_bin rfl rfl rfl (run_eql _ _ _ _ _ _)) (WL_pure rfl rfl (by decide) (Pu_move rfl rfl) (WL_guardP rfl rfl rfl rfl (by decide) (fun hb => (Pu_move rfl rfl)) (WL_guardP rfl rfl rfl rfl (by decide) (fun hb => (Pu_bin rfl (ev_gv rfl hb) rfl (run_eql _ _ _ _ _ _))) (WL_pure rfl rfl (by decide) (Pu_and rfl rfl rfl) (WL_pure rfl rfl (by decide) (Pu_assign rfl rfl) (WL_nil (X_then ?_)))))))))
          refine W_ret (X_then_ret ?_)
          exact X_ret [] (Ps := []) (res1 Tryd.results5 rfl) rfl (by decide) ⟨bool_val (by rw [if_pos hwant, if_pos (by rw [h47]; decide)]; rfl), rfl⟩
        ·
          have h47 : ¬ m = 47 := by have := of_decide_eq_false hc70; omega
          refine W_skip (X_then ?_)
          refine W_seq ?_
          refine W.pre (K' := [(0, _), (2, _), (3, _), (4, _), (6, _), (8, _), (16, _), (51, _), (60, _), (70, _)]) (L' := [(0, _), (301, _), (400, _)]) ?_ ⟨rfl, ⟨rfl, ⟨rfl, ⟨rfl, ⟨rfl, ⟨rfl, ⟨rfl, ⟨rfl, ⟨rfl, ⟨rfl, trivial⟩⟩⟩⟩⟩⟩⟩⟩⟩⟩ ⟨rfl, ⟨rfl, ⟨rfl, trivial⟩⟩⟩
          refine W_regL (WL_pure rfl rfl (by decide) (Pu_move rfl rfl) (WL_cons rfl rfl (by decide) (OpT_call 500 [0, 301, 400] [] rfl Tryd.call11 rfl rfl rfl (by decide) (by decide) (check_spec (encL m) (by omega) _ (tabs_star 0 rfl hT)) (fun v80 Ps80 hR80 => ?_))))
          obtain ⟨rfl, rfl⟩ := hR80
          rw [hce]
          refine (WL_pure rfl rfl (by decide) (Pu_move rfl rfl) (WL_pure rfl rfl (by decide) (Pu_bin rfl rfl rfl (run_eql _ _ _ _ _ _)) (WL_pure rfl rfl (by decide) (Pu_move rfl rfl) (WL_guardP rfl rfl rfl rfl (by decide) (fun hb => (Pu_move rfl rfl)) (WL_guardP rfl rfl rfl rfl (by decide) (fun hb => (Pu_move rfl rfl)) (WL_guardP rfl rfl rfl rfl (by decide) (fun hb => (Pu_bin rfl (ev_gv rfl hb) (ev_gv rfl hb) (run_eql _ _ _ _ _ _))) (WL_pure rfl rfl (by decide) (Pu_and rfl rfl rfl) (WL_pure rfl rfl (by decide) (Pu_assign rfl rfl) (WL_nil (X_then ?_))))))))))
          refine W_ret ?_
          exact X_ret [] (Ps := []) (res1 Tryd.results5 rfl) rfl (by decide) ⟨bool_val (by rw [if_pos hwant, if_pos (hwant.resolve_left h46)]; rfl), rfl⟩
    ·
      have hwant : ¬ (m = 46 ∨ wrongR m = true) := want_no hc51
      refine W_skip (X_then ?_)
      refine W_seq ?_
      refine W.pre (K' := [(0, _), (2, _), (3, _), (4, _), (8, _), (16, _), (51, _)]) (L' := [(0, _), (301, _)]) ?_ ⟨rfl, ⟨rfl, ⟨rfl, ⟨rfl, ⟨rfl, ⟨rfl, ⟨rfl, trivial⟩⟩⟩⟩⟩⟩⟩ ⟨rfl, ⟨rfl, trivial⟩⟩
      refine W_regL (WL_pure rfl rfl (by decide) (Pu_move rfl rfl) (WL_pure rfl rfl (by decide) (Pu_bin rfl rfl rfl (run_addL _ _ _ _ _ (by simp only [List.length_cons, List.length_nil]; omega))) (WL_pure rfl rfl (by decide) (Pu_bin rfl rfl rfl (run_addL _ _ _ _ _ (by simp only [List.length_append, List.length_cons, List.length_nil]; omega))) (WL_cons rfl rfl (by decide) (OpT_call 400 [0, 301] [] rfl Tryd.call13 rfl rfl rfl (by decide) (by decide) (split_nspec ([47] ++ encL m ++ [120]) (by simp only [List.length_append, List.length_cons, List.length_nil]; omega) _ (tabs_star 0 rfl hT)) (fun v56 Ps56 hR56 => ?_))))))
      obtain ⟨v56, rfl, rfl⟩ := hR56
      rw [hse]
      refine (WL_pure rfl rfl (by decide) (Pu_move rfl rfl) (WL_pure rfl rfl (by decide) (Pu_extract rfl rfl rfl) (WL_pure rfl rfl (by decide) (Pu_extract rfl rfl rfl) (WL_pure rfl rfl (by decide) (Pu_assign rfl rfl) (WL_pure rfl rfl (by decide) (Pu_assign rfl rfl) (WL_nil (X_then ?_)))))))
      refine W_seq ?_
      refine W_seq ?_
      refine W.pre (K' := [(0, _), (2, _), (3, _), (4, _), (6, _), (8, _), (16, _), (51, _)]) (L' := [(0, _), (301, _), (400, _)]) ?_ ⟨rfl, ⟨rfl, ⟨rfl, ⟨rfl, ⟨rfl, ⟨rfl, ⟨rfl, ⟨rfl, trivial⟩⟩⟩⟩⟩⟩⟩⟩ ⟨rfl, ⟨rfl, ⟨rfl, trivial⟩⟩⟩
      refine W_regL (WL_pure rfl rfl (by decide) (Pu_move rfl rfl) (WL_pure rfl rfl (by decide) (Pu_bin rfl rfl rfl (run_eql _ _ _ _ _ _)) (WL_nil (X_then ?_))))
      refine W_cond rfl (fun hc60 => ?_) (fun hc60 => ?_)
      ·
        have h46 : m = 46 := by have := of_decide_eq_true hc60; omega
        refine W_seq ?_
        refine W.pre (K' := [(0, _), (2, _), (3, _), (4, _), (6, _), (8, _), (16, _), (51, _), (60, _)]) (L' := [(0, _), (301, _), (400, _)]) ?_ ⟨rfl, ⟨rfl, ⟨rfl, ⟨rfl, ⟨rfl, ⟨rfl, ⟨rfl, ⟨rfl, ⟨rfl, trivial⟩⟩⟩⟩⟩⟩⟩⟩⟩ ⟨rfl, ⟨rfl, ⟨rfl, trivial⟩⟩⟩
        refine W_regL (WL_pure rfl rfl (by decide) (Pu_move rfl rfl) (WL_cons rfl rfl (by decide) (OpT_call 500 [0, 301, 400] [] rfl Tryd.call11 rfl rfl rfl (by decide) (by decide) (check_spec (encL m) (by omega) _ (tabs_star 0 rfl hT)) (fun v62 Ps62 hR62 => ?_))))
        obtain ⟨rfl, rfl⟩ := hR62
        rw [hce]
        refine (WL_pure rfl rfl (by decide) (Pu_move rfl rfl) (WL_pure rfl rfl (by decide) (Pu_bin rfl rfl rfl (run_eql _ _ _ _ _ _)) (WL_pure rfl rfl (by decide) (Pu_move rfl rfl) (WL_guardP rfl rfl rfl rfl (by decide) (fun hb => (Pu_move rfl rfl)) (WL_guardP rfl rfl rfl rfl (by decide) (fun hb => (Pu_bin rfl (ev_gv rfl hb) rfl (run_eql _ _ _ _ _ _))) (WL_pure rfl rfl (by decide) (Pu_and rfl rfl rfl) (WL_pure rfl rfl (by decide) (Pu_assign rfl rfl) (WL_nil (X_then ?_)))))))))
        refine W_ret (X_then_ret ?_)
        exact X_ret [] (Ps := []) (res1 Tryd.results5 rfl) rfl (by decide) ⟨absurd (.inl h46) hwant, rfl⟩
      ·
        have h46 : ¬ m = 46 := by have := of_decide_eq_false hc60; omega
        refine W_skip (X_then ?_)
        refine W_seq ?_
        refine W_seq ?_
        refine W.pre (K' := [(0, _), (2, _), (3, _), (4, _), (6, _), (8, _), (16, _), (51, _), (60, _)]) (L' := [(0, _), (301, _), (400, _)]) ?_ ⟨rfl, ⟨rfl, ⟨rfl, ⟨rfl, ⟨rfl, ⟨rfl, ⟨rfl, ⟨rfl, ⟨rfl, trivial⟩⟩⟩⟩⟩⟩⟩⟩⟩ ⟨rfl, ⟨rfl, ⟨rfl, trivial⟩⟩⟩
        refine W_regL (WL_pure rfl rfl (by decide) (Pu_move rfl rfl) (WL_pure rfl rfl (by decide) (Pu_bin rfl rfl rfl (run_eql _ _ _ _ _ _)) (WL_nil (X_then ?_))))
        refine W_cond rfl (fun hc70 => ?_) (fun hc70 => ?_)
        ·
          have h47 : m = 47 := by have := of_decide_eq_true hc70; omega
          refine W_seq ?_
          refine W.pre (K' := [(0, _), (2, _), (3, _), (4, _), (6, _), (8, _), (16, _), (51, _), (60, _), (70, _)]) (L' := [(0, _), (301, _), (400, _)]) ?_ ⟨rfl, ⟨rfl, ⟨rfl, ⟨rfl, ⟨rfl, ⟨rfl, ⟨rfl, ⟨rfl, ⟨rfl, ⟨rfl, trivial⟩⟩⟩⟩⟩⟩⟩⟩⟩⟩ ⟨rfl, ⟨rfl, ⟨rfl, trivial⟩⟩⟩
          refine W_regL (WL_pure rfl rfl (by decide) (Pu_move rfl rfl) (WL_cons rfl rfl (by decide) (OpT_call 500 [0, 301, 400] [] rfl Tryd.call11 rfl rfl rfl (by decide) (by decide) (check_spec (encL m) (by omega) _ (tabs_star 0 rfl hT)) (fun v72 Ps72 hR72 => ?_))))
          obtain ⟨rfl, rfl⟩ := hR72
          rw [hce]
          refine (WL_pure rfl rfl (by decide) (Pu_move rfl rfl) (WL_pure rfl rfl (by decide) (Pu_bin rfl rfl rfl (run_eql _ _ _ _ _ _)) (WL_pure rfl rfl (by decide) (Pu_move rfl rfl) (WL_guardP rfl rfl rfl rfl (by decide) (fun hb => (Pu_move rfl rfl)) (WL_guardP rfl rfl rfl rfl (by decide) (fun hb => (Pu_bin rfl (ev_gv rfl hb) rfl (run_eql _ _ _ _ _ _))) (WL_pure rfl rfl (by decide) (Pu_and rfl rfl rfl) (WL_pure rfl rfl (by decide) (Pu_assign rfl rfl) (WL_nil (X_then ?_)))))))))
          refine W_ret (X_then_ret ?_)
          exact X_ret [] (Ps := []) (res1 Tryd.results5 rfl) rfl (by decide) ⟨absurd (.inr (by rw [h47]; decide)) hwant, rfl⟩
        ·
          have h47 : ¬ m = 47 := by have := of_decide_eq_false hc70; omega
          refine W_skip (X_then ?_)
          refine W_seq ?_
          refine W.pre (K' := [(0, _), (2, _), (3, _), (4, _), (6, _), (8, _), (16, _), (51, _), (60, _), (70, _)]) (L' := [(0, _), (301, _), (400, _)]) ?_ ⟨rfl, ⟨rfl, ⟨rfl, ⟨rfl, ⟨rfl, ⟨rfl, ⟨rfl, ⟨rfl, ⟨rfl, ⟨rfl, trivial⟩⟩⟩⟩⟩⟩⟩⟩⟩⟩ ⟨rfl, ⟨rfl, ⟨rfl, trivial⟩⟩⟩
          refine W_regL (WL_pure rfl rfl (by decide) (Pu_move rfl rfl) (WL_cons rfl rfl (by decide) (OpT_call 500 [0, 301, 400] [] rfl Tryd.call11 rfl rfl rfl (by decide) (by decide) (check_spec (encL m) (by omega) _ (tabs_star 0 rfl hT)) (fun v80 Ps80 hR80 => ?_))))
          obtain ⟨rfl, rfl⟩ := hR80
          rw [hce]
          refine (WL_pure rfl rfl (by decide) (Pu_move rfl rfl) (WL_pure rfl rfl (by decide) (Pu_bin rfl rfl rfl (run_eql _ _ _ _ _ _)) (WL_pure rfl rfl (by decide) (Pu_move rfl rfl) (WL_guardP rfl rfl rfl rfl (by decide) (fun hb => (Pu_move rfl rfl)) (WL_guardP rfl rfl rfl rfl (by decide) (fun hb => (Pu_move rfl rfl)) (WL_guardP rfl rfl rfl rfl (by decide) (fun hb => (Pu_bin rfl (ev_gv rfl hb) (ev_gv rfl hb) (run_eql _ _ _ _ _ _))) (WL_pure rfl rfl (by decide) (Pu_and rfl rfl rfl) (WL_pure rfl rfl (by decide) (Pu_assign rfl rfl) (WL_nil (X_then ?_))))))))))
          refine W_ret ?_
          exact X_ret [] (Ps := []) (res1 Tryd.results5 rfl) rfl (by decide) ⟨bool_val (by rw [if_neg hwant, if_neg (fun h => hwant (.inr h))]; rfl), rfl⟩

theorem namesRunes_any (W : World) (hT : ∀ h, orig W h → tabsP h) (a0 : Int) (lo0 : -9223372036854775808 ≤ a0) (hi0 : a0 ≤ 9223372036854775807) :
    Calls Tryd.prog 5 #[.int .i64 a0] W fun e W' => e = .returned (.bool true) ∧ Chg [] W W' :=
  calls_law ((namesRunes_law a0 (orig W) hT).imp fun v Ps h => h.1)
end Go.Proofs.YtjiafaiklmbbeaaDoor
