/- latticelaw3: NamesParts. -/
import Derived.Test.YtjiafaiklmbbeaaDoorNames3
import Derived.Test.YtjiafaiklmbbeaaDoorTiN
import Derived.Test.YtjiafaiklmbbeaaDoorOpen
namespace Go.Proofs.YtjiafaiklmbbeaaDoor
open Go.RowKit Go.Lib
set_option linter.unusedVariables false
set_option linter.unusedSimpArgs false

theorem namesParts_law (v0 : Value) (qs : List Q) (v1 : Value) (zs : List Int) (F : HP) (h0 : ∀ h, F h → rdP 1 v0 qs.length (qs.map (·.1)) h) (hQ : ∀ q ∈ qs, ∀ h, F h → rdN q.1 q.2 h) (hZ : ∀ h, F h → rdN v1 zs h) (hT : ∀ h, F h → tabsP h) :
    CallsS Tryd.prog 7 #[v0, v1] F [] (fun r Ps => r = .bool true ∧ Ps = []) := by
  refine callsS_enter Tryd.func7 rfl Tryd.ntmps7 (by simp) (fun E => ?_)
  refine W_seq ?_
  refine W.pre (K' := [(0, _), (1, _)]) (L' := [(0, _)]) ?_ ⟨rfl, ⟨rfl, trivial⟩⟩ ⟨rfl, trivial⟩
  refine W_regL (WL_pure rfl rfl (by decide) (Pu_assign rfl rfl) (WL_nil (X_then ?_)))
  refine W_seq ?_
  refine W_seq ?_
  refine W.pre (K' := [(0, _), (1, _), (4, _)]) (L' := [(0, _)]) ?_ ⟨rfl, ⟨rfl, ⟨rfl, trivial⟩⟩⟩ ⟨rfl, trivial⟩
  refine W_regL (WL_cons rfl rfl (by decide) (OpT_call 200 [0] [] rfl Tryd.call8 rfl rfl rfl (by decide) (by decide) (known_spec _ (tabs_star 0 rfl hT)) (fun v13 Ps13 hR13 => ?_)))
  obtain ⟨rfl, rfl⟩ := hR13
  refine (WL_pure rfl rfl (by decide) (Pu_un rfl rfl (run_not _)) (WL_nil (X_then ?_)))
  refine W_false rfl (rfl) ?_
  refine W_skip (X_then ?_)
  refine W_seq ?_
  refine W.pre (K' := [(0, _), (1, _), (4, _), (14, _)]) (L' := [(0, _)]) ?_ ⟨rfl, ⟨rfl, ⟨rfl, ⟨rfl, trivial⟩⟩⟩⟩ ⟨rfl, trivial⟩
  refine W_regL (WL_pure rfl rfl (by decide) (Pu_assign rfl rfl) (WL_nil (X_then ?_)))
  refine W_seq ?_
  refine W_seq ?_
  refine W.pre (K' := [(0, _), (1, _), (4, _), (5, _), (14, _)]) (L' := [(0, _)]) ?_ ⟨rfl, ⟨rfl, ⟨rfl, ⟨rfl, ⟨rfl, trivial⟩⟩⟩⟩⟩ ⟨rfl, trivial⟩
  refine W_regL (WL_pure rfl rfl (by decide) (Pu_assign rfl rfl) (WL_nil (X_then ?_)))
  refine W_block ?_
  refine W_nilRow 201 9 1 ?_
  refine W_loop (α := Nat × Value) (fun x => [(0, v0), (1, v1), (5, x.2), (6, .int .i64 (x.1 : Int))]) (fun x => [(0, F), (201, rowS 9 x.2 (nmL qs x.1))]) (fun x => x.1 ≤ qs.length ∧ x.1 ≤ 5) (fun x => 5 - x.1) ((0, .slice none 0 0)) ⟨Nat.zero_le _, Nat.zero_le _⟩ ⟨rfl, ⟨rfl, ⟨rfl, ⟨rfl, trivial⟩⟩⟩⟩ ⟨rfl, ⟨rfl, trivial⟩⟩ (fun x hx => ?_)
  obtain ⟨hxl, hx5⟩ := hx
  have hnl := nmL_len qs x.1 hxl
  refine W_seq ?_
  refine W_seq ?_
  refine W.pre (K' := [(0, _), (1, _), (5, _), (6, _)]) (L' := [(0, _), (201, _)]) ?_ ⟨rfl, ⟨rfl, ⟨rfl, ⟨rfl, trivial⟩⟩⟩⟩ ⟨rfl, ⟨rfl, trivial⟩⟩
  refine W_regL (WL_pure rfl rfl (by decide) (Pu_move rfl rfl) (WL_pure rfl rfl (by decide) (Pu_move rfl rfl) (WL_pure rfl rfl (by decide) (Pu_len (r := 0) rfl Tryd.runUnderlying38 rfl rfl h0) (WL_pure rfl rfl (by decide) (Pu_bin rfl rfl rfl (run_lss _ _ _ _ _ _)) (WL_pure rfl rfl (by decide) (Pu_move rfl rfl) (WL_guardP rfl rfl rfl rfl (by decide) (fun hb => (Pu_move rfl rfl)) (WL_guardP rfl rfl rfl rfl (by decide) (fun hb => (Pu_bin rfl (ev_gv rfl hb) rfl (run_lss _ _ _ _ _ _))) (WL_pure rfl rfl (by decide) (Pu_and rfl rfl rfl) (WL_nil (X_then ?_))))))))))
  refine W_cond rfl (fun hc22 => ?_) (fun hc22 => ?_)
  ·
    simp only [Bool.and_eq_true, decide_eq_true_eq] at hc22
    have hlt : x.1 < qs.length := by omega
    have hlt5 : x.1 < 5 := by omega
    refine W_skip (X_then ?_)
    refine W_seq ?_
    refine W_block ?_
    refine W.pre (K' := [(0, _), (1, _), (5, _), (6, _), (22, _)]) (L' := [(0, _), (201, _)]) ?_ ⟨rfl, ⟨rfl, ⟨rfl, ⟨rfl, ⟨rfl, trivial⟩⟩⟩⟩⟩ ⟨rfl, ⟨rfl, trivial⟩⟩
    unfold rowS
    refine W_regL (WL_pure rfl rfl (by decide) (Pu_move rfl rfl) (WL_pure rfl rfl (by decide) (Pu_move rfl rfl) (WL_pure rfl rfl (by decide) (Pu_move rfl rfl) (WL_pure rfl rfl (by decide) (Pu_idxS1 (r := 0) rfl Tryd.runUnderlying38 Tryd.sizeOf22 rfl rfl rfl h0 (by omega)) (WL_pure rfl rfl (by decide) (Pu_loadS (r := 0) rfl Tryd.isAgg22 rfl rfl h0 (vals_at hlt)) (WL_cons rfl rfl (by decide) (OpT_call 300 [0, 201] [] rfl Tryd.call9 rfl rfl rfl (by decide) (by decide) (name_spec (qs.getD x.1 (undef, [])).1 (qs.getD x.1 (undef, [])).2 _ (rd_star 0 rfl (hQ _ (getD_memQ hlt)))) (fun v30 Ps30 hR30 => ?_))))))))
    obtain ⟨rfl, rfl⟩ := hR30
    refine (WL_cons rfl rfl (by decide) (OpT_buildOnes (r := 301) [sV (nameN (qs.getD x.1 (undef, [])).2)] rfl rfl Tryd.runUnderlying30 Tryd.sizeOf9 Tryd.zeroValue9 rfl rfl (by decide) rfl (by simp [Value.cells]) (fun v31 => (WL_cons rfl rfl (by decide) (OpT_append (r := 201) (r2 := 301) rfl Tryd.underlying30 TI.hi9 TI.hz9 TI.hs9 TI.hby9 TI.hzs9 (by decide) rfl rfl rfl rfl (fun _ h => rowP_rd h) (ss_one [_]) (by unfold maxLen; omega) (by omega) (fun v32 => ?_))))))
    refine (WL_pure rfl rfl (by decide) (Pu_assign rfl rfl) (WL_nil (X_block (X_then ?_))))
    refine W.pre (K' := [(0, _), (1, _), (5, _), (6, _), (22, _)]) (L' := [(0, _), (201, _), (301, _)]) ?_ ⟨rfl, ⟨rfl, ⟨rfl, ⟨rfl, ⟨rfl, trivial⟩⟩⟩⟩⟩ ⟨rfl, ⟨rfl, ⟨rfl, trivial⟩⟩⟩
    refine W_regL (WL_pure rfl rfl (by decide) (Pu_move rfl rfl) (WL_pure rfl rfl (by decide) (Pu_bin rfl rfl rfl (run_add _ _ _ _ _ (by omega))) (WL_pure rfl rfl (by decide) (Pu_assign rfl rfl) (WL_nil ?_))))
    exact X_round (x.1 + 1, v32) ⟨hlt, hlt5⟩ (by dsimp only; omega) ⟨rfl, rfl, rfl, rfl, trivial⟩ ⟨rfl, look_eq rfl (rowS_of (nmL qs (x.1 + 1)) (by rw [nmL_succ hlt]; simp) (by rw [nmL_succ hlt, ss_append]; rfl)), trivial⟩
  ·
    simp only [Bool.and_eq_false_iff, decide_eq_false_iff_not] at hc22
    have hjl := jn_nm_len qs x.1
    have hmm : ∀ y ∈ nmL qs x.1, checkN y = 0 ∧ (47 : UInt8) ∉ y ∧ y ≠ [] ∧ y.length ≤ 49 := fun y hy => nm_mem hy
    have hall : allN (nmL qs x.1) = 0 := nm_all qs x.1 (by omega)
    generalize nmL qs x.1 = ls at *
    have hjll := joinL_len ls
    have hw := nameN_len zs
    have hjo : joinN ls = (47 :: joinL ls, 0) := by unfold joinN; rw [if_neg (fun hc => hc hall)]
    have hsk : ∀ y ∈ ls, (47 : UInt8) ∉ y ∧ y ≠ [] := fun y hy => ⟨(hmm y hy).2.1, (hmm y hy).2.2.1⟩
    refine W_exit (X_then_exit (X_then_exit (X_block_exit (X_then ?_))))
    refine W_seq ?_
    refine W.pre (K' := [(0, _), (1, _), (5, _), (6, _), (22, _)]) (L' := [(0, _), (201, _)]) ?_ ⟨rfl, ⟨rfl, ⟨rfl, ⟨rfl, ⟨rfl, trivial⟩⟩⟩⟩⟩ ⟨rfl, ⟨rfl, trivial⟩⟩
    refine W_regL (WL_pure rfl rfl (by decide) (Pu_move rfl rfl) (WL_cons rfl rfl (by decide) (OpT_call 300 [0, 201] [] rfl Tryd.call14 rfl rfl rfl (by decide) (by decide) (join_nspec x.2 ls (by omega) _ (rd_star 1 rfl rowS_rd) (tabs_star 0 rfl hT)) (fun v35 Ps35 hR35 => ?_))))
    obtain ⟨rfl, rfl⟩ := hR35
    rw [hjo]
    refine (WL_pure rfl rfl (by decide) (Pu_move rfl rfl) (WL_pure rfl rfl (by decide) (Pu_extract rfl rfl rfl) (WL_pure rfl rfl (by decide) (Pu_extract rfl rfl rfl) (WL_pure rfl rfl (by decide) (Pu_assign rfl rfl) (WL_pure rfl rfl (by decide) (Pu_assign rfl rfl) (WL_nil (X_then ?_)))))))
    refine W_seq ?_
    refine W.pre (K' := [(0, _), (1, _), (5, _), (6, _), (7, _), (8, _), (22, _)]) (L' := [(0, _), (201, _)]) ?_ ⟨rfl, ⟨rfl, ⟨rfl, ⟨rfl, ⟨rfl, ⟨rfl, ⟨rfl, trivial⟩⟩⟩⟩⟩⟩⟩ ⟨rfl, ⟨rfl, trivial⟩⟩
    refine W_regL (WL_pure rfl rfl (by decide) (Pu_move rfl rfl) (WL_cons rfl rfl (by decide) (OpT_call 400 [0, 201] [] rfl Tryd.call9 rfl rfl rfl (by decide) (by decide) (name_spec v1 zs _ (rd_star 0 rfl hZ)) (fun v39 Ps39 hR39 => ?_))))
    obtain ⟨rfl, rfl⟩ := hR39
    refine (WL_pure rfl rfl (by decide) (Pu_assign rfl rfl) (WL_nil (X_then ?_)))
    refine W_seq ?_
    refine W.pre (K' := [(0, _), (1, _), (5, _), (6, _), (7, _), (8, _), (9, _), (22, _)]) (L' := [(0, _), (201, _)]) ?_ ⟨rfl, ⟨rfl, ⟨rfl, ⟨rfl, ⟨rfl, ⟨rfl, ⟨rfl, ⟨rfl, trivial⟩⟩⟩⟩⟩⟩⟩⟩ ⟨rfl, ⟨rfl, trivial⟩⟩
    refine W_regL (WL_pure rfl rfl (by decide) (Pu_move rfl rfl) (WL_pure rfl rfl (by decide) (Pu_bin rfl rfl rfl (run_addL _ _ _ _ _ (by simp only [List.length_append, List.length_cons, List.length_nil]; omega))) (WL_pure rfl rfl (by decide) (Pu_move rfl rfl) (WL_pure rfl rfl (by decide) (Pu_bin rfl rfl rfl (run_addL _ _ _ _ _ (by simp only [List.length_append, List.length_cons, List.length_nil]; omega))) (WL_pure rfl rfl (by decide) (Pu_assign rfl rfl) (WL_nil (X_then ?_)))))))
    refine W_seq ?_
    refine W_seq ?_
    refine W.pre (K' := [(0, _), (1, _), (5, _), (6, _), (7, _), (8, _), (9, _), (10, _), (22, _)]) (L' := [(0, _), (201, _)]) ?_ ⟨rfl, ⟨rfl, ⟨rfl, ⟨rfl, ⟨rfl, ⟨rfl, ⟨rfl, ⟨rfl, ⟨rfl, trivial⟩⟩⟩⟩⟩⟩⟩⟩⟩ ⟨rfl, ⟨rfl, trivial⟩⟩
    refine W_regL (WL_pure rfl rfl (by decide) (Pu_move rfl rfl) (WL_pure rfl rfl (by decide) (Pu_bin rfl rfl rfl (run_strEq _ _ _ _ _)) (WL_nil (X_then ?_))))
    refine W_cond rfl (fun hc45 => ?_) (fun hc45 => ?_)
    ·
      have hem : ls = [] := (nm_path hsk).1 (by simpa using hc45)
      have hpt := parts_one zs hem
      have hem0 : ls.length = 0 := by rw [hem]; rfl
      refine W.pre (K' := [(0, _), (1, _), (5, _), (6, _), (7, _), (8, _), (9, _), (10, _), (22, _), (45, _)]) (L' := [(0, _), (201, _)]) ?_ ⟨rfl, ⟨rfl, ⟨rfl, ⟨rfl, ⟨rfl, ⟨rfl, ⟨rfl, ⟨rfl, ⟨rfl, ⟨rfl, trivial⟩⟩⟩⟩⟩⟩⟩⟩⟩⟩ ⟨rfl, ⟨rfl, trivial⟩⟩
      refine W_regL (WL_pure rfl rfl (by decide) (Pu_move rfl rfl) (WL_pure rfl rfl (by decide) (Pu_bin rfl rfl rfl (run_addL _ _ _ _ _ (by simp only [List.length_append, List.length_cons, List.length_nil]; omega))) (WL_pure rfl rfl (by decide) (Pu_assign rfl rfl) (WL_nil (X_then ?_)))))
      refine W_seq ?_
      refine W.pre (K' := [(0, _), (1, _), (5, _), (6, _), (7, _), (8, _), (9, _), (10, _), (22, _), (45, _)]) (L' := [(0, _), (201, _)]) ?_ ⟨rfl, ⟨rfl, ⟨rfl, ⟨rfl, ⟨rfl, ⟨rfl, ⟨rfl, ⟨rfl, ⟨rfl, ⟨rfl, trivial⟩⟩⟩⟩⟩⟩⟩⟩⟩⟩ ⟨rfl, ⟨rfl, trivial⟩⟩
      refine W_regL (WL_pure rfl rfl (by decide) (Pu_move rfl rfl) (WL_cons rfl rfl (by decide) (OpT_call 500 [0, 201] [] rfl Tryd.call13 rfl rfl rfl (by decide) (by decide) (split_nspec ([47] ++ nameN zs) (by simp only [List.length_append, List.length_cons, List.length_nil]; omega) _ (tabs_star 0 rfl hT)) (fun v50 Ps50 hR50 => ?_))))
      obtain ⟨v50, rfl, rfl⟩ := hR50
      rw [hpt]
      refine (WL_pure rfl rfl (by decide) (Pu_move rfl rfl) (WL_pure rfl rfl (by decide) (Pu_extract rfl rfl rfl) (WL_pure rfl rfl (by decide) (Pu_extract rfl rfl rfl) (WL_pure rfl rfl (by decide) (Pu_assign rfl rfl) (WL_pure rfl rfl (by decide) (Pu_assign rfl rfl) (WL_nil (X_then ?_)))))))
      refine W_seq ?_
      refine W_seq ?_
      refine W.pre (K' := [(0, _), (1, _), (5, _), (6, _), (7, _), (8, _), (9, _), (10, _), (11, _), (12, _), (22, _), (45, _)]) (L' := [(0, _), (201, _), (500, _)]) ?_ ⟨rfl, ⟨rfl, ⟨rfl, ⟨rfl, ⟨rfl, ⟨rfl, ⟨rfl, ⟨rfl, ⟨rfl, ⟨rfl, ⟨rfl, ⟨rfl, trivial⟩⟩⟩⟩⟩⟩⟩⟩⟩⟩⟩⟩ ⟨rfl, ⟨rfl, ⟨rfl, trivial⟩⟩⟩
      refine W_regL (WL_pure rfl rfl (by decide) (Pu_move rfl rfl) (WL_pure rfl rfl (by decide) (Pu_len (r := 201) rfl Tryd.runUnderlying30 rfl rfl rowS_rd) (WL_pure rfl rfl (by decide) (Pu_bin rfl rfl rfl (run_eql _ _ _ _ _ _)) (WL_nil (X_then ?_)))))
      refine W_false rfl (decide_eq_false (by omega)) ?_
      refine W_skip (X_then ?_)
      refine W_seq ?_
      refine W.pre (K' := [(0, _), (1, _), (5, _), (6, _), (7, _), (8, _), (9, _), (10, _), (11, _), (12, _), (22, _), (45, _), (55, _)]) (L' := [(0, _), (201, _), (500, _)]) ?_ ⟨rfl, ⟨rfl, ⟨rfl, ⟨rfl, ⟨rfl, ⟨rfl, ⟨rfl, ⟨rfl, ⟨rfl, ⟨rfl, ⟨rfl, ⟨rfl, ⟨rfl, trivial⟩⟩⟩⟩⟩⟩⟩⟩⟩⟩⟩⟩⟩ ⟨rfl, ⟨rfl, ⟨rfl, trivial⟩⟩⟩
      refine W_regL (WL_pure rfl rfl (by decide) (Pu_move rfl rfl) (WL_pure rfl rfl (by decide) (Pu_bin rfl rfl rfl (run_eql _ _ _ _ _ _)) (WL_pure rfl rfl (by decide) (Pu_move rfl rfl) (WL_gPT rfl rfl rfl rfl rfl (by decide) (Pu_move rfl rfl) (WL_gPT rfl rfl rfl rfl rfl (by decide) (Pu_bin rfl rfl rfl (run_eql _ _ _ _ _ _)) (WL_pure rfl rfl (by decide) (Pu_pickT rfl rfl rfl rfl) (WL_pure rfl rfl (by decide) (Pu_move rfl rfl) (WL_gPT rfl rfl rfl rfl rfl (by decide) (Pu_move rfl rfl) (WL_gT rfl rfl rfl rfl rfl (by decide) (OpT_buildOnes (r := 501) (ss []) rfl rfl Tryd.runUnderlying30 Tryd.sizeOf9 Tryd.zeroValue9 rfl rfl (by decide) rfl (ss_cells _) (fun v70 => (WL_gPT rfl rfl rfl rfl rfl (by decide) (Pu_move rfl rfl) (WL_gT rfl rfl rfl rfl rfl (by decide) (OpT_append (r := 501) (r2 := 201) rfl Tryd.underlying30 TI.hi9 TI.hz9 TI.hs9 TI.hby9 TI.hzs9 (by decide) rfl rfl rfl rfl rowS_rd (ss_one _) (by unfold maxLen; omega) (by omega) (fun v72 => ?_)))))))))))))))
      refine (WL_gPT rfl rfl rfl rfl rfl (by decide) (Pu_move rfl rfl) (WL_gT rfl rfl rfl rfl rfl (by decide) (OpT_buildOnes (r := 502) (ss [nameN zs]) rfl rfl Tryd.runUnderlying30 Tryd.sizeOf9 Tryd.zeroValue9 rfl rfl (by decide) rfl (ss_cells _) (fun v74 => (WL_gT rfl rfl rfl rfl rfl (by decide) (OpT_append (r := 501) (r2 := 502) rfl Tryd.underlying30 TI.hi9 TI.hz9 TI.hs9 TI.hby9 TI.hzs9 (by decide) rfl rfl rfl rfl (fun _ h => rowP_rd h) (ss_one _) (by unfold maxLen; omega) (by omega) (fun v75 => ?_)))))))
      refine (WL_gT rfl rfl rfl rfl rfl (by decide) (OpT_call 600 [0, 201, 500, 501, 502] [] rfl Tryd.call16 rfl rfl rfl (by decide) (by decide) (same_spec v50 v75 (ls ++ [nameN zs]) (ls ++ [nameN zs]) (by simp only [List.length_append, List.length_cons, List.length_nil]; omega) _ (rd_star 2 rfl rowS_rd) (rd_star 3 rfl (fun h hp => rdP_cast (rowP_rd hp) same_snoc (by simp)))) (fun v76 Ps76 hR76 => ?_)))
      obtain ⟨rfl, rfl⟩ := hR76
      refine (WL_pure rfl rfl (by decide) (Pu_pickT rfl rfl rfl rfl) (WL_pure rfl rfl (by decide) (Pu_assign rfl rfl) (WL_nil (X_then ?_))))
      refine W_ret ?_
      exact X_ret [] (Ps := []) (res1 Tryd.results7 rfl) rfl (by decide) ⟨bool_val (by simp), rfl⟩
    ·
      have hem : ls ≠ [] := fun h => absurd ((nm_path hsk).2 h) (by simpa using hc45)
      have hpt := parts_more zs hmm hem
      refine W_skip (X_then ?_)
      refine W_seq ?_
      refine W.pre (K' := [(0, _), (1, _), (5, _), (6, _), (7, _), (8, _), (9, _), (10, _), (22, _), (45, _)]) (L' := [(0, _), (201, _)]) ?_ ⟨rfl, ⟨rfl, ⟨rfl, ⟨rfl, ⟨rfl, ⟨rfl, ⟨rfl, ⟨rfl, ⟨rfl, ⟨rfl, trivial⟩⟩⟩⟩⟩⟩⟩⟩⟩⟩ ⟨rfl, ⟨rfl, trivial⟩⟩
      refine W_regL (WL_pure rfl rfl (by decide) (Pu_move rfl rfl) (WL_cons rfl rfl (by decide) (OpT_call 500 [0, 201] [] rfl Tryd.call13 rfl rfl rfl (by decide) (by decide) (split_nspec (47 :: joinL ls ++ [47] ++ nameN zs) (by simp only [List.length_append, List.length_cons, List.length_nil]; omega) _ (tabs_star 0 rfl hT)) (fun v50 Ps50 hR50 => ?_))))
      obtain ⟨v50, rfl, rfl⟩ := hR50
      rw [hpt]
      refine (WL_pure rfl rfl (by decide) (Pu_move rfl rfl) (WL_pure rfl rfl (by decide) (Pu_extract rfl rfl rfl) (WL_pure rfl rfl (by decide) (Pu_extract rfl rfl rfl) (WL_pure rfl rfl (by decide) (Pu_assign rfl rfl) (WL_pure rfl rfl (by decide) (Pu_assign rfl rfl) (WL_nil (X_then ?_)))))))
      refine W_seq ?_
      refine W_seq ?_
      refine W.pre (K' := [(0, _), (1, _), (5, _), (6, _), (7, _), (8, _), (9, _), (10, _), (11, _), (12, _), (22, _), (45, _)]) (L' := [(0, _), (201, _), (500, _)]) ?_ ⟨rfl, ⟨rfl, ⟨rfl, ⟨rfl, ⟨rfl, ⟨rfl, ⟨rfl, ⟨rfl, ⟨rfl, ⟨rfl, ⟨rfl, ⟨rfl, trivial⟩⟩⟩⟩⟩⟩⟩⟩⟩⟩⟩⟩ ⟨rfl, ⟨rfl, ⟨rfl, trivial⟩⟩⟩
      refine W_regL (WL_pure rfl rfl (by decide) (Pu_move rfl rfl) (WL_pure rfl rfl (by decide) (Pu_len (r := 201) rfl Tryd.runUnderlying30 rfl rfl rowS_rd) (WL_pure rfl rfl (by decide) (Pu_bin rfl rfl rfl (run_eql _ _ _ _ _ _)) (WL_nil (X_then ?_)))))
      refine W_cond rfl (fun hc55 => ?_) (fun hc55 => ?_)
      ·
        have h5 := of_decide_eq_true hc55
        rw [if_pos (by omega)]
        refine W_seq ?_
        refine W.pre (K' := [(0, _), (1, _), (5, _), (6, _), (7, _), (8, _), (9, _), (10, _), (11, _), (12, _), (22, _), (45, _), (55, _)]) (L' := [(0, _), (201, _), (500, _)]) ?_ ⟨rfl, ⟨rfl, ⟨rfl, ⟨rfl, ⟨rfl, ⟨rfl, ⟨rfl, ⟨rfl, ⟨rfl, ⟨rfl, ⟨rfl, ⟨rfl, ⟨rfl, trivial⟩⟩⟩⟩⟩⟩⟩⟩⟩⟩⟩⟩⟩ ⟨rfl, ⟨rfl, ⟨rfl, trivial⟩⟩⟩
        refine W_regL (WL_pure rfl rfl (by decide) (Pu_move rfl rfl) (WL_pure rfl rfl (by decide) (Pu_bin rfl rfl rfl (run_eql _ _ _ _ _ _)) (WL_pure rfl rfl (by decide) (Pu_move rfl rfl) (WL_guardP rfl rfl rfl rfl (by decide) (fun hb => (Pu_move rfl rfl)) (WL_guardP rfl rfl rfl rfl (by decide) (fun hb => (Pu_bin rfl (ev_gv rfl hb) rfl (run_eql _ _ _ _ _ _))) (WL_pure rfl rfl (by decide) (Pu_and rfl rfl rfl) (WL_pure rfl rfl (by decide) (Pu_assign rfl rfl) (WL_nil (X_then ?_)))))))))
        refine W_ret (X_then_ret ?_)
        exact X_ret [] (Ps := []) (res1 Tryd.results7 rfl) rfl (by decide) ⟨rfl, rfl⟩
      ·
        have h5 := of_decide_eq_false hc55
        rw [if_neg (by omega)]
        refine W_skip (X_then ?_)
        refine W_seq ?_
        refine W.pre (K' := [(0, _), (1, _), (5, _), (6, _), (7, _), (8, _), (9, _), (10, _), (11, _), (12, _), (22, _), (45, _), (55, _)]) (L' := [(0, _), (201, _), (500, _)]) ?_ ⟨rfl, ⟨rfl, ⟨rfl, ⟨rfl, ⟨rfl, ⟨rfl, ⟨rfl, ⟨rfl, ⟨rfl, ⟨rfl, ⟨rfl, ⟨rfl, ⟨rfl, trivial⟩⟩⟩⟩⟩⟩⟩⟩⟩⟩⟩⟩⟩ ⟨rfl, ⟨rfl, ⟨rfl, trivial⟩⟩⟩
        refine W_regL (WL_pure rfl rfl (by decide) (Pu_move rfl rfl) (WL_pure rfl rfl (by decide) (Pu_bin rfl rfl rfl (run_eql _ _ _ _ _ _)) (WL_pure rfl rfl (by decide) (Pu_move rfl rfl) (WL_gPT rfl rfl rfl rfl rfl (by decide) (Pu_move rfl rfl) (WL_gPT rfl rfl rfl rfl rfl (by decide) (Pu_bin rfl rfl rfl (run_eql _ _ _ _ _ _)) (WL_pure rfl rfl (by decide) (Pu_pickT rfl rfl rfl rfl) (WL_pure rfl rfl (by decide) (Pu_move rfl rfl) (WL_gPT rfl rfl rfl rfl rfl (by decide) (Pu_move rfl rfl) (WL_gT rfl rfl rfl rfl rfl (by decide) (OpT_buildOnes (r := 501) (ss []) rfl rfl Tryd.runUnderlying30 Tryd.sizeOf9 Tryd.zeroValue9 rfl rfl (by decide) rfl (ss_cells _) (fun v70 => (WL_gPT rfl rfl rfl rfl rfl (by decide) (Pu_move rfl rfl) (WL_gT rfl rfl rfl rfl rfl (by decide) (OpT_append (r := 501) (r2 := 201) rfl Tryd.underlying30 TI.hi9 TI.hz9 TI.hs9 TI.hby9 TI.hzs9 (by decide) rfl rfl rfl rfl rowS_rd (ss_one _) (by unfold maxLen; omega) (by omega) (fun v72 => ?_)))))))))))))))
        refine (WL_gPT rfl rfl rfl rfl rfl (by decide) (Pu_move rfl rfl) (WL_gT rfl rfl rfl rfl rfl (by decide) (OpT_buildOnes (r := 502) (ss [nameN zs]) rfl rfl Tryd.runUnderlying30 Tryd.sizeOf9 Tryd.zeroValue9 rfl rfl (by decide) rfl (ss_cells _) (fun v74 => (WL_gT rfl rfl rfl rfl rfl (by decide) (OpT_append (r := 501) (r2 := 502) rfl Tryd.underlying30 TI.hi9 TI.hz9 TI.hs9 TI.hby9 TI.hzs9 (by decide) rfl rfl rfl rfl (fun _ h => rowP_rd h) (ss_one _) (by unfold maxLen; omega) (by omega) (fun v75 => ?_)))))))
        refine (WL_gT rfl rfl rfl rfl rfl (by decide) (OpT_call 600 [0, 201, 500, 501, 502] [] rfl Tryd.call16 rfl rfl rfl (by decide) (by decide) (same_spec v50 v75 (ls ++ [nameN zs]) (ls ++ [nameN zs]) (by simp only [List.length_append, List.length_cons, List.length_nil]; omega) _ (rd_star 2 rfl rowS_rd) (rd_star 3 rfl (fun h hp => rdP_cast (rowP_rd hp) same_snoc (by simp)))) (fun v76 Ps76 hR76 => ?_)))
        obtain ⟨rfl, rfl⟩ := hR76
        refine (WL_pure rfl rfl (by decide) (Pu_pickT rfl rfl rfl rfl) (WL_pure rfl rfl (by decide) (Pu_assign rfl rfl) (WL_nil (X_then ?_))))
        refine W_ret ?_
        exact X_ret [] (Ps := []) (res1 Tryd.results7 rfl) rfl (by decide) ⟨bool_val (by simp), rfl⟩

theorem namesParts_any (W : World) (hT : ∀ h, orig W h → tabsP h) (v0 : Value) (qs : List Q) (hr0 : Rd W 1 v0 qs.length (qs.map (·.1)) ∧ ∀ q ∈ qs, Rd W 1 q.1 q.2.length (is q.2)) (hl0 : qs.length ≤ maxLen) (v1 : Value) (l1 : List Int) (hr1 : RdI W v1 l1) (hz1 : I64 l1) (hl1 : l1.length ≤ maxLen) :
    Calls Tryd.prog 7 #[v0, v1] W fun e W' => e = .returned (.bool true) ∧ Chg [] W W' :=
  calls_law ((namesParts_law v0 qs v1 l1 (orig W) (fun h hp => Rd.orig hr0.1 h hp) (fun q hq h hp => Rd.orig (hr0.2 q hq) h hp) (fun h hp => Rd.orig hr1 h hp) hT).imp fun v Ps h => h.1)
end Go.Proofs.YtjiafaiklmbbeaaDoor
