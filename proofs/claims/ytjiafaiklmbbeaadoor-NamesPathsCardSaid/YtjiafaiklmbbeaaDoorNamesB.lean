/- names: paths are split and joined. -/
import Derived.Test.YtjiafaiklmbbeaaDoorNames1
import Derived.Test.YtjiafaiklmbbeaaDoorTiN
namespace Go.Proofs.YtjiafaiklmbbeaaDoor
open Go.RowKit Go.Lib
set_option linter.unusedVariables false
set_option linter.unusedSimpArgs false

theorem all_spec (v : Value) (ls : List (List UInt8)) (hlen : ∀ x ∈ ls, x.length ≤ 140737488355328) (F : HP) (hF : ∀ h, F h → rdS v ls h) (hT : ∀ h, F h → tabsP h) : CallsS Tryd.prog 24 #[v] F [] (fun r Ps => r = .int .i64 (allN ls : Int) ∧ Ps = []) := by
  refine callsS_enter Tryd.func24 rfl Tryd.ntmps24 (by simp) (fun E => ?_)
  refine W_seq ?_
  refine W.pre (K' := [(0, _)]) (L' := [(0, _)]) ?_ ⟨rfl, trivial⟩ ⟨rfl, trivial⟩
  refine W_regL (WL_pure rfl rfl (by decide) (Pu_assign rfl rfl) (WL_nil (X_then ?_)))
  refine W_seq ?_
  refine W_seq ?_
  refine W.pre (K' := [(0, _), (2, _)]) (L' := [(0, _)]) ?_ ⟨rfl, ⟨rfl, trivial⟩⟩ ⟨rfl, trivial⟩
  refine W_regL (WL_pure rfl rfl (by decide) (Pu_move rfl rfl) (WL_pure rfl rfl (by decide) (Pu_len (r := 0) rfl Tryd.runUnderlying30 rfl rfl hF) (WL_pure rfl rfl (by decide) (Pu_bin rfl rfl rfl (run_gtr _ _ _ _ _ _)) (WL_nil (X_then ?_)))))
  refine W_cond rfl (fun hc8 => ?_) (fun hc8 => ?_)
  ·
    have h5 := of_decide_eq_true hc8
    refine W_seq ?_
    refine W.pre (K' := [(0, _), (2, _), (8, _)]) (L' := [(0, _)]) ?_ ⟨rfl, ⟨rfl, ⟨rfl, trivial⟩⟩⟩ ⟨rfl, trivial⟩
    refine W_regL (WL_pure rfl rfl (by decide) (Pu_assign rfl rfl) (WL_nil (X_then ?_)))
    refine W_ret (X_then_ret ?_)
    exact X_ret [] (Ps := []) (res1 Tryd.results24 rfl) rfl (by decide) ⟨by unfold allN; rw [if_pos (by omega)]; rfl, rfl⟩
  ·
    have h5 := of_decide_eq_false hc8
    refine W_skip (X_then ?_)
    refine W_seq ?_
    refine W_seq ?_
    refine W.pre (K' := [(0, _), (2, _), (8, _)]) (L' := [(0, _)]) ?_ ⟨rfl, ⟨rfl, ⟨rfl, trivial⟩⟩⟩ ⟨rfl, trivial⟩
    refine W_regL (WL_pure rfl rfl (by decide) (Pu_move rfl rfl) (WL_pure rfl rfl (by decide) (Pu_len (r := 0) rfl Tryd.runUnderlying30 rfl rfl hF) (WL_pure rfl rfl (by decide) (Pu_move rfl rfl) (WL_nil (X_then ?_)))))
    refine W_block ?_
    refine W_loop (α := Nat) (fun i => [(9, v), (10, .int .i64 (ls.length : Int)), (11, .int .i64 (i : Int))]) (fun i => [(0, F)]) (fun i => i ≤ ls.length ∧ firstBad (ls.drop i) = firstBad ls) (fun i => ls.length - i) (0) ⟨Nat.zero_le _, rfl⟩ ⟨rfl, ⟨rfl, ⟨rfl, trivial⟩⟩⟩ ⟨rfl, trivial⟩ (fun x hx => ?_)
    obtain ⟨hxl, hfb⟩ := hx
    refine W_seq ?_
    refine W.pre (K' := [(9, _), (10, _), (11, _)]) (L' := [(0, _)]) ?_ ⟨rfl, ⟨rfl, ⟨rfl, trivial⟩⟩⟩ ⟨rfl, trivial⟩
    refine W_regL (WL_pure rfl rfl (by decide) (Pu_bin rfl rfl rfl (run_lss _ _ _ _ _ _)) (WL_nil (X_then ?_)))
    refine W_seq ?_
    refine W_cond rfl (fun hc12 => ?_) (fun hc12 => ?_)
    ·
      have hlt : x < ls.length := by have := of_decide_eq_true hc12; omega
      refine W_skip (X_then ?_)
      refine W_seq ?_
      refine W_block ?_
      refine W_seq ?_
      refine W.pre (K' := [(9, _), (10, _), (11, _), (12, _)]) (L' := [(0, _)]) ?_ ⟨rfl, ⟨rfl, ⟨rfl, ⟨rfl, trivial⟩⟩⟩⟩ ⟨rfl, trivial⟩
      refine W_regL (WL_pure rfl rfl (by decide) (Pu_idxS1 (r := 0) rfl Tryd.runUnderlying30 Tryd.sizeOf9 rfl rfl rfl hF (by omega)) (WL_pure rfl rfl (by decide) (Pu_loadS (r := 0) rfl Tryd.isAgg9 rfl rfl hF (ss_at hlt)) (WL_pure rfl rfl (by decide) (Pu_assign rfl rfl) (WL_nil (X_then ?_)))))
      refine W_seq ?_
      refine W.pre (K' := [(4, _), (9, _), (10, _), (11, _), (12, _)]) (L' := [(0, _)]) ?_ ⟨rfl, ⟨rfl, ⟨rfl, ⟨rfl, ⟨rfl, trivial⟩⟩⟩⟩⟩ ⟨rfl, trivial⟩
      refine W_regL (WL_pure rfl rfl (by decide) (Pu_move rfl rfl) (WL_cons rfl rfl (by decide) (OpT_call 200 [0] [] rfl Tryd.call11 rfl rfl rfl (by decide) (by decide) (check_spec (ls.getD x []) (hlen _ (getD_mem hlt)) _ (tabs_star 0 rfl hT)) (fun v16 Ps16 hR16 => ?_))))
      obtain ⟨rfl, rfl⟩ := hR16
      refine (WL_pure rfl rfl (by decide) (Pu_assign rfl rfl) (WL_nil (X_then ?_)))
      refine W_seq ?_
      refine W.pre (K' := [(4, _), (5, _), (9, _), (10, _), (11, _), (12, _)]) (L' := [(0, _)]) ?_ ⟨rfl, ⟨rfl, ⟨rfl, ⟨rfl, ⟨rfl, ⟨rfl, trivial⟩⟩⟩⟩⟩⟩ ⟨rfl, trivial⟩
      refine W_regL (WL_pure rfl rfl (by decide) (Pu_move rfl rfl) (WL_pure rfl rfl (by decide) (Pu_bin rfl rfl rfl (run_neq _ _ _ _ _ _)) (WL_nil (X_then ?_))))
      refine W_cond rfl (fun hc18 => ?_) (fun hc18 => ?_)
      ·
        have hbad : ¬ (checkN (ls.getD x []) : Int) = 0 := by simpa using hc18
        refine W_seq ?_
        refine W.pre (K' := [(4, _), (5, _), (9, _), (10, _), (11, _), (12, _), (18, _)]) (L' := [(0, _)]) ?_ ⟨rfl, ⟨rfl, ⟨rfl, ⟨rfl, ⟨rfl, ⟨rfl, ⟨rfl, trivial⟩⟩⟩⟩⟩⟩⟩ ⟨rfl, trivial⟩
        refine W_regL (WL_pure rfl rfl (by decide) (Pu_move rfl rfl) (WL_pure rfl rfl (by decide) (Pu_assign rfl rfl) (WL_nil (X_then ?_))))
        refine W_ret (X_block_ret (X_then_ret (X_then_ret (X_block_ret (X_then_ret ?_)))))
        exact X_ret [] (Ps := []) (res1 Tryd.results24 rfl) rfl (by decide) ⟨by unfold allN; rw [if_neg (by omega), ← hfb, firstBad_bad hlt hbad], rfl⟩
      ·
        have hgood : (checkN (ls.getD x []) : Int) = 0 := by simpa using hc18
        refine W_skip (X_block (X_then ?_))
        refine W.pre (K' := [(4, _), (5, _), (9, _), (10, _), (11, _), (12, _), (18, _)]) (L' := [(0, _)]) ?_ ⟨rfl, ⟨rfl, ⟨rfl, ⟨rfl, ⟨rfl, ⟨rfl, ⟨rfl, trivial⟩⟩⟩⟩⟩⟩⟩ ⟨rfl, trivial⟩
        refine W_regL (WL_pure rfl rfl (by decide) (Pu_bin rfl rfl rfl (run_add _ _ _ _ _ (by omega))) (WL_pure rfl rfl (by decide) (Pu_move rfl rfl) (WL_nil ?_)))
        exact X_round (x + 1) ⟨hlt, by rw [← hfb, firstBad_good hlt hgood]⟩ (by omega) ⟨rfl, rfl, rfl, trivial⟩ ⟨rfl, trivial⟩
    ·
      have hge : ls.length ≤ x := by have := of_decide_eq_false hc12; omega
      refine W_exit (X_then_exit (X_then_exit (X_block_exit (X_then ?_))))
      refine W_seq ?_
      refine W.pre (K' := [(9, _), (10, _), (11, _), (12, _)]) (L' := [(0, _)]) ?_ ⟨rfl, ⟨rfl, ⟨rfl, ⟨rfl, trivial⟩⟩⟩⟩ ⟨rfl, trivial⟩
      refine W_regL (WL_pure rfl rfl (by decide) (Pu_assign rfl rfl) (WL_nil (X_then ?_)))
      refine W_ret ?_
      exact X_ret [] (Ps := []) (res1 Tryd.results24 rfl) rfl (by decide) ⟨by unfold allN; rw [if_neg (by omega), ← hfb, firstBad_end hge]; rfl, rfl⟩
theorem split_nspec (l : List UInt8) (hl : l.length < 4294967281) (F : HP) (hT : ∀ h, F h → tabsP h) : CallsS Tryd.prog 13 #[sV l] F [] (fun r Ps => ∃ v, r = .tuple #[v, .int .i64 ((splitN l).2 : Int)] ∧ Ps = [rowS 9 v (splitN l).1]) := by
  refine callsS_enter Tryd.func13 rfl Tryd.ntmps13 (by simp) (fun E => ?_)
  refine W_seq ?_
  refine W.pre (K' := [(0, _)]) (L' := [(0, _)]) ?_ ⟨rfl, trivial⟩ ⟨rfl, trivial⟩
  refine W_regL (WL_pure rfl rfl (by decide) (Pu_assign rfl rfl) (WL_pure rfl rfl (by decide) (Pu_assign rfl rfl) (WL_nil (X_then ?_))))
  refine W_seq ?_
  refine W_seq ?_
  refine W.pre (K' := [(0, _), (2, _), (3, _)]) (L' := [(0, _)]) ?_ ⟨rfl, ⟨rfl, ⟨rfl, trivial⟩⟩⟩ ⟨rfl, trivial⟩
  refine W_regL (WL_pure rfl rfl (by decide) (Pu_move rfl rfl) (WL_pure rfl rfl (by decide) (Pu_bin rfl rfl rfl (run_strEq _ _ _ _ _)) (WL_nil (X_then ?_))))
  refine W_cond rfl (fun hc7 => ?_) (fun hc7 => ?_)
  ·
    have h1 : l = [47] := by simpa using hc7
    refine W_seq ?_
    refine W.pre (K' := [(0, _), (2, _), (3, _), (7, _)]) (L' := [(0, _)]) ?_ ⟨rfl, ⟨rfl, ⟨rfl, ⟨rfl, trivial⟩⟩⟩⟩ ⟨rfl, trivial⟩
    refine W_regL (WL_pure rfl rfl (by decide) (Pu_assign rfl rfl) (WL_pure rfl rfl (by decide) (Pu_assign rfl rfl) (WL_nil (X_then ?_))))
    refine W_ret (X_then_ret ?_)
    have hs : splitN l = ([], 0) := by unfold splitN; rw [if_pos h1]
    refine X_nilRow 9900 9 1 ?_
    exact X_ret [9900] (Ps := [_]) (res2 Tryd.results13 rfl rfl) rfl (by decide) ⟨_, by rw [hs] <;> rfl, by rw [hs] <;> rfl⟩
  ·
    have h1 : ¬ l = [47] := by simpa using hc7
    refine W_skip (X_then ?_)
    refine W_seq ?_
    refine W_seq ?_
    refine W.pre (K' := [(0, _), (2, _), (3, _), (7, _)]) (L' := [(0, _)]) ?_ ⟨rfl, ⟨rfl, ⟨rfl, ⟨rfl, trivial⟩⟩⟩⟩ ⟨rfl, trivial⟩
    rcases Bool.eq_false_or_eq_true ((!([47] : List UInt8).isPrefixOf l)) with hsp3 | hsp3
    ·
      have hnp : noPath l = true := by unfold noPath; rw [hsp3]; rfl
      refine W_regL (WL_pure rfl rfl (by decide) (Pu_move rfl rfl) (WL_cons rfl rfl (by decide) (OpT_call 200 [0] [] rfl Tryd.call21 rfl rfl rfl (by decide) (by decide) (prefix_spec l [47] _) (fun v9 Ps9 hR9 => ?_))))
      obtain ⟨rfl, rfl⟩ := hR9
      refine (WL_pure rfl rfl (by decide) (Pu_un rfl rfl (run_not _)) (WL_pure rfl rfl (by decide) (Pu_move rfl rfl) (WL_gF rfl rfl rfl (by rw [hsp3]; rfl) rfl (by decide) (WL_gF rfl rfl rfl (by rw [hsp3]; rfl) rfl (by decide) (WL_pure rfl rfl (by decide) (Pu_pickT rfl rfl hsp3 rfl) (WL_nil (X_then ?_)))))))
      refine W_true rfl (rfl) ?_
      refine W_seq ?_
      refine W.pre (K' := [(0, _), (2, _), (3, _), (7, _), (14, _)]) (L' := [(0, _)]) ?_ ⟨rfl, ⟨rfl, ⟨rfl, ⟨rfl, ⟨rfl, trivial⟩⟩⟩⟩⟩ ⟨rfl, trivial⟩
      refine W_regL (WL_pure rfl rfl (by decide) (Pu_assign rfl rfl) (WL_pure rfl rfl (by decide) (Pu_assign rfl rfl) (WL_nil (X_then ?_))))
      refine W_ret (X_then_ret ?_)
      have hs : splitN l = ([], 10) := by unfold splitN; rw [if_neg h1, if_pos hnp]
      refine X_nilRow 9900 9 1 ?_
      exact X_ret [9900] (Ps := [_]) (res2 Tryd.results13 rfl rfl) rfl (by decide) ⟨_, by rw [hs] <;> rfl, by rw [hs] <;> rfl⟩
    ·
      have hnq : noPath l = ([47] : List UInt8).isSuffixOf l := by unfold noPath; rw [hsp3]; rfl
      refine W_regL (WL_pure rfl rfl (by decide) (Pu_move rfl rfl) (WL_cons rfl rfl (by decide) (OpT_call 200 [0] [] rfl Tryd.call21 rfl rfl rfl (by decide) (by decide) (prefix_spec l [47] _) (fun v9 Ps9 hR9 => ?_))))
      obtain ⟨rfl, rfl⟩ := hR9
      refine (WL_pure rfl rfl (by decide) (Pu_un rfl rfl (run_not _)) (WL_pure rfl rfl (by decide) (Pu_move rfl rfl) (WL_gPT rfl rfl rfl (by rw [hsp3]; rfl) rfl (by decide) (Pu_move rfl rfl) (WL_gT rfl rfl rfl (by rw [hsp3]; rfl) rfl (by decide) (OpT_call 300 [0] [] rfl Tryd.call22 rfl rfl rfl (by decide) (by decide) (suffix_spec l [47] (by omega) _) (fun v13 Ps13 hR13 => ?_))))))
      obtain ⟨rfl, rfl⟩ := hR13
      refine (WL_pure rfl rfl (by decide) (Pu_pickF rfl rfl hsp3 rfl) (WL_nil (X_then ?_)))
      refine W_cond rfl (fun hc14 => ?_) (fun hc14 => ?_)
      ·
        have hnp : noPath l = true := hnq.trans hc14
        refine W_seq ?_
        refine W.pre (K' := [(0, _), (2, _), (3, _), (7, _), (14, _)]) (L' := [(0, _)]) ?_ ⟨rfl, ⟨rfl, ⟨rfl, ⟨rfl, ⟨rfl, trivial⟩⟩⟩⟩⟩ ⟨rfl, trivial⟩
        refine W_regL (WL_pure rfl rfl (by decide) (Pu_assign rfl rfl) (WL_pure rfl rfl (by decide) (Pu_assign rfl rfl) (WL_nil (X_then ?_))))
        refine W_ret (X_then_ret ?_)
        have hs : splitN l = ([], 10) := by unfold splitN; rw [if_neg h1, if_pos hnp]
        refine X_nilRow 9900 9 1 ?_
        exact X_ret [9900] (Ps := [_]) (res2 Tryd.results13 rfl rfl) rfl (by decide) ⟨_, by rw [hs] <;> rfl, by rw [hs] <;> rfl⟩
      ·
        have hnp : noPath l = false := hnq.trans hc14
        refine W_skip (X_then ?_)
        refine W_seq ?_
        refine W.pre (K' := [(0, _), (2, _), (3, _), (7, _), (14, _)]) (L' := [(0, _)]) ?_ ⟨rfl, ⟨rfl, ⟨rfl, ⟨rfl, ⟨rfl, trivial⟩⟩⟩⟩⟩ ⟨rfl, trivial⟩
        have hpos : 1 ≤ l.length := by rcases l with _ | ⟨c, l⟩; exact absurd hnp (by simp [noPath_nil]); simp
        refine W_regL (WL_pure rfl rfl (by decide) (Pu_move rfl rfl) (WL_pure rfl rfl (by decide) (Pu_sliceStrE (a := 1) rfl Tryd.underlying9 rfl (.inr ⟨_, _, _, rfl, rfl, rfl⟩) (.inl ⟨rfl, rfl⟩) (by omega) (Nat.le_refl _) (take_rest _ _)) (WL_cons rfl rfl (by decide) (OpT_call 400 [0] [] rfl Tryd.call23 rfl rfl rfl (by decide) (by decide) (split_spec (l.drop 1) (by simp; omega) _ (tabs_star 0 rfl hT)) (fun v17 Ps17 hR17 => ?_)))))
        subst hR17
        refine (WL_pure rfl rfl (by decide) (Pu_assign rfl rfl) (WL_nil (X_then ?_)))
        refine W_seq ?_
        refine W_seq ?_
        refine W.pre (K' := [(0, _), (2, _), (3, _), (4, _), (7, _), (14, _)]) (L' := [(0, _), (400, _)]) ?_ ⟨rfl, ⟨rfl, ⟨rfl, ⟨rfl, ⟨rfl, ⟨rfl, trivial⟩⟩⟩⟩⟩⟩ ⟨rfl, ⟨rfl, trivial⟩⟩
        refine W_regL (WL_pure rfl rfl (by decide) (Pu_move rfl rfl) (WL_cons rfl rfl (by decide) (OpT_call 500 [0, 400] [] rfl Tryd.call24 rfl rfl rfl (by decide) (by decide) (all_spec v17 (splitL (l.drop 1)) (fun x hx => by have := splitL_mem hx; simp at this; omega) _ (rd_star 1 rfl rowS_rd) (tabs_star 0 rfl hT)) (fun v19 Ps19 hR19 => ?_))))
        obtain ⟨rfl, rfl⟩ := hR19
        refine (WL_pure rfl rfl (by decide) (Pu_assign rfl rfl) (WL_nil (X_then ?_)))
        refine W_seq ?_
        refine W.pre (K' := [(0, _), (2, _), (3, _), (4, _), (5, _), (7, _), (14, _)]) (L' := [(0, _), (400, _)]) ?_ ⟨rfl, ⟨rfl, ⟨rfl, ⟨rfl, ⟨rfl, ⟨rfl, ⟨rfl, trivial⟩⟩⟩⟩⟩⟩⟩ ⟨rfl, ⟨rfl, trivial⟩⟩
        refine W_regL (WL_pure rfl rfl (by decide) (Pu_move rfl rfl) (WL_pure rfl rfl (by decide) (Pu_bin rfl rfl rfl (run_neq _ _ _ _ _ _)) (WL_nil (X_then ?_))))
        refine W_cond rfl (fun hc21 => ?_) (fun hc21 => ?_)
        ·
          have h3 : ¬ allN (splitL (l.drop 1)) = 0 := by simpa using hc21
          refine W_seq ?_
          refine W.pre (K' := [(0, _), (2, _), (3, _), (4, _), (5, _), (7, _), (14, _), (21, _)]) (L' := [(0, _), (400, _)]) ?_ ⟨rfl, ⟨rfl, ⟨rfl, ⟨rfl, ⟨rfl, ⟨rfl, ⟨rfl, ⟨rfl, trivial⟩⟩⟩⟩⟩⟩⟩⟩ ⟨rfl, ⟨rfl, trivial⟩⟩
          refine W_regL (WL_pure rfl rfl (by decide) (Pu_move rfl rfl) (WL_pure rfl rfl (by decide) (Pu_assign rfl rfl) (WL_pure rfl rfl (by decide) (Pu_assign rfl rfl) (WL_nil (X_then ?_)))))
          refine W_ret (X_then_ret ?_)
          have hs : splitN l = ([], allN (splitL (l.drop 1))) := by unfold splitN; rw [if_neg h1, if_neg (by simp [hnp]), if_pos h3]
          refine X_nilRow 9900 9 1 ?_
          exact X_ret [9900] (Ps := [_]) (res2 Tryd.results13 rfl rfl) rfl (by decide) ⟨_, by rw [hs] <;> rfl, by rw [hs] <;> rfl⟩
        ·
          have h3 : allN (splitL (l.drop 1)) = 0 := by simpa using hc21
          refine W_skip (X_then ?_)
          refine W_seq ?_
          refine W.pre (K' := [(0, _), (2, _), (3, _), (4, _), (5, _), (7, _), (14, _), (21, _)]) (L' := [(0, _), (400, _)]) ?_ ⟨rfl, ⟨rfl, ⟨rfl, ⟨rfl, ⟨rfl, ⟨rfl, ⟨rfl, ⟨rfl, trivial⟩⟩⟩⟩⟩⟩⟩⟩ ⟨rfl, ⟨rfl, trivial⟩⟩
          refine W_regL (WL_pure rfl rfl (by decide) (Pu_move rfl rfl) (WL_pure rfl rfl (by decide) (Pu_assign rfl rfl) (WL_pure rfl rfl (by decide) (Pu_assign rfl rfl) (WL_nil (X_then ?_)))))
          refine W_ret ?_
          have hs : splitN l = (splitL (l.drop 1), 0) := by unfold splitN; rw [if_neg h1, if_neg (by simp [hnp]), if_neg (fun hc => hc h3)]
          exact X_ret [400] (Ps := [_]) (res2 Tryd.results13 rfl rfl) rfl (by decide) ⟨_, by rw [hs] <;> rfl, by rw [hs]⟩
theorem join_nspec (v : Value) (ls : List (List UInt8)) (hlen : (jn ls).length < 140737488355328) (F : HP) (hF : ∀ h, F h → rdS v ls h) (hT : ∀ h, F h → tabsP h) : CallsS Tryd.prog 14 #[v] F [] (fun r Ps => r = .tuple #[sV (joinN ls).1, .int .i64 ((joinN ls).2 : Int)] ∧ Ps = []) := by
  refine callsS_enter Tryd.func14 rfl Tryd.ntmps14 (by simp) (fun E => ?_)
  refine W_seq ?_
  refine W.pre (K' := [(0, _)]) (L' := [(0, _)]) ?_ ⟨rfl, trivial⟩ ⟨rfl, trivial⟩
  refine W_regL (WL_pure rfl rfl (by decide) (Pu_assign rfl rfl) (WL_pure rfl rfl (by decide) (Pu_assign rfl rfl) (WL_nil (X_then ?_))))
  refine W_seq ?_
  refine W_seq ?_
  refine W.pre (K' := [(0, _), (2, _), (3, _)]) (L' := [(0, _)]) ?_ ⟨rfl, ⟨rfl, ⟨rfl, trivial⟩⟩⟩ ⟨rfl, trivial⟩
  refine W_regL (WL_pure rfl rfl (by decide) (Pu_move rfl rfl) (WL_cons rfl rfl (by decide) (OpT_call 200 [0] [] rfl Tryd.call24 rfl rfl rfl (by decide) (by decide) (all_spec v ls (fun x hx => Nat.le_trans (jn_mem hx) (Nat.le_of_lt hlen)) _ (rd_star 0 rfl hF) (tabs_star 0 rfl hT)) (fun v6 Ps6 hR6 => ?_))))
  obtain ⟨rfl, rfl⟩ := hR6
  refine (WL_pure rfl rfl (by decide) (Pu_assign rfl rfl) (WL_nil (X_then ?_)))
  refine W_seq ?_
  refine W.pre (K' := [(0, _), (2, _), (3, _), (4, _)]) (L' := [(0, _)]) ?_ ⟨rfl, ⟨rfl, ⟨rfl, ⟨rfl, trivial⟩⟩⟩⟩ ⟨rfl, trivial⟩
  refine W_regL (WL_pure rfl rfl (by decide) (Pu_move rfl rfl) (WL_pure rfl rfl (by decide) (Pu_bin rfl rfl rfl (run_neq _ _ _ _ _ _)) (WL_nil (X_then ?_))))
  refine W_cond rfl (fun hc8 => ?_) (fun hc8 => ?_)
  ·
    have h3 : ¬ allN ls = 0 := by simpa using hc8
    refine W_seq ?_
    refine W.pre (K' := [(0, _), (2, _), (3, _), (4, _), (8, _)]) (L' := [(0, _)]) ?_ ⟨rfl, ⟨rfl, ⟨rfl, ⟨rfl, ⟨rfl, trivial⟩⟩⟩⟩⟩ ⟨rfl, trivial⟩
    refine W_regL (WL_pure rfl rfl (by decide) (Pu_move rfl rfl) (WL_pure rfl rfl (by decide) (Pu_assign rfl rfl) (WL_pure rfl rfl (by decide) (Pu_assign rfl rfl) (WL_nil (X_then ?_)))))
    refine W_ret (X_then_ret ?_)
    have hs : joinN ls = ([], allN ls) := by unfold joinN; rw [if_pos h3]
    exact X_ret [] (Ps := []) (res2 Tryd.results14 rfl rfl) rfl (by decide) ⟨by rw [hs] <;> rfl, rfl⟩
  ·
    have h3 : allN ls = 0 := by simpa using hc8
    have hjl := joinL_len ls
    have hjc := jn_count ls
    refine W_skip (X_then ?_)
    refine W_seq ?_
    refine W.pre (K' := [(0, _), (2, _), (3, _), (4, _), (8, _)]) (L' := [(0, _)]) ?_ ⟨rfl, ⟨rfl, ⟨rfl, ⟨rfl, ⟨rfl, trivial⟩⟩⟩⟩⟩ ⟨rfl, trivial⟩
    refine W_regL (WL_pure rfl rfl (by decide) (Pu_move rfl rfl) (WL_cons rfl rfl (by decide) (OpT_call 300 [0] [] rfl Tryd.call25 rfl rfl rfl (by decide) (by decide) (join_spec v ls (by omega) (by omega) _ (rd_star 0 rfl hF)) (fun v11 Ps11 hR11 => ?_))))
    obtain ⟨rfl, rfl⟩ := hR11
    refine (WL_pure rfl rfl (by decide) (Pu_bin rfl rfl rfl (run_addL _ _ _ _ _ (by simp; omega))) (WL_pure rfl rfl (by decide) (Pu_assign rfl rfl) (WL_pure rfl rfl (by decide) (Pu_assign rfl rfl) (WL_nil (X_then ?_)))))
    refine W_ret ?_
    have hs : joinN ls = (47 :: joinL ls, 0) := by unfold joinN; rw [if_neg (fun hc => hc h3)]
    exact X_ret [] (Ps := []) (res2 Tryd.results14 rfl rfl) rfl (by decide) ⟨by rw [hs] <;> rfl, rfl⟩
end Go.Proofs.YtjiafaiklmbbeaaDoor
