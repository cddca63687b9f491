/- names: a name is checked. -/
import Derived.Test.YtjiafaiklmbbeaaDoorLibN
import Derived.Test.YtjiafaiklmbbeaaDoorTiN
namespace Go.Proofs.YtjiafaiklmbbeaaDoor
open Go.RowKit Go.Lib
set_option linter.unusedVariables false
set_option linter.unusedSimpArgs false

theorem bool_val {a b : Bool} (h : a = b) : Value.bool a = Value.bool b := by rw [h]
theorem int_val {k : IntKind} {a b : Int} (h : a = b) : Value.int k a = Value.int k b := by rw [h]
theorem wrongR_eq (r : Nat) : ((decide ((r : Int) < 32) || decide ((r : Int) = 127)) || decide ((r : Int) = 47)) = wrongR r := by
  have h1 : decide ((r : Int) < 32) = decide (r < 32) := decide_eq_decide.2 (by omega)
  have h2 : decide ((r : Int) = 127) = (r == 127) := Bool.eq_iff_iff.2 (by simp; omega)
  have h3 : decide ((r : Int) = 47) = (r == 47) := Bool.eq_iff_iff.2 (by simp; omega)
  rw [h1, h2, h3]; rfl
theorem noRune_eq (l : List UInt8) : (decide (((decodeL l).1 : Int) = 65533) && decide (((decodeL l).2 : Int) ≤ 1)) = noRune l := by
  have h1 : decide (((decodeL l).1 : Int) = 65533) = ((decodeL l).1 == 65533) := Bool.eq_iff_iff.2 (by simp; omega)
  have h2 : decide (((decodeL l).2 : Int) ≤ 1) = decide ((decodeL l).2 ≤ 1) := decide_eq_decide.2 (by omega)
  rw [h1, h2]; rfl
theorem wrong_spec (r : Nat) (F : HP) : CallsS Tryd.prog 19 #[.int .i32 (r : Int)] F [] (fun v Ps => v = .bool (wrongR r) ∧ Ps = []) := by
  refine callsS_enter Tryd.func19 rfl Tryd.ntmps19 (by simp) (fun E => ?_)
  refine W_seq ?_
  refine W.pre (K' := [(0, _)]) (L' := [(0, _)]) ?_ ⟨rfl, trivial⟩ ⟨rfl, trivial⟩
  refine W_regL (WL_pure rfl rfl (by decide) (Pu_assign rfl rfl) (WL_nil (X_then ?_)))
  refine W_seq ?_
  refine W.pre (K' := [(0, _), (2, _)]) (L' := [(0, _)]) ?_ ⟨rfl, ⟨rfl, trivial⟩⟩ ⟨rfl, trivial⟩
  refine W_regL (WL_pure rfl rfl (by decide) (Pu_move rfl rfl) (WL_pure rfl rfl (by decide) (Pu_bin rfl rfl rfl (run_lss _ _ _ _ _ _)) (WL_pure rfl rfl (by decide) (Pu_move rfl rfl) (WL_guardP rfl rfl rfl rfl (by decide) (fun hb => (Pu_move rfl rfl)) (WL_guardP rfl rfl rfl rfl (by decide) (fun hb => (Pu_bin rfl (ev_gv rfl hb) rfl (run_eql _ _ _ _ _ _))) (WL_pure rfl rfl (by decide) (Pu_or rfl rfl rfl) (WL_pure rfl rfl (by decide) (Pu_move rfl rfl) (WL_guardP rfl rfl rfl rfl (by decide) (fun hb => (Pu_move rfl rfl)) (WL_guardP rfl rfl rfl rfl (by decide) (fun hb => (Pu_bin rfl (ev_gv rfl hb) rfl (run_eql _ _ _ _ _ _))) (WL_pure rfl rfl (by decide) (Pu_or rfl rfl rfl) (WL_pure rfl rfl (by decide) (Pu_assign rfl rfl) (WL_nil (X_then ?_)))))))))))))
  refine W_ret ?_
  exact X_ret [] (Ps := []) (res1 Tryd.results19 rfl) rfl (by decide) ⟨bool_val (wrongR_eq r), rfl⟩
theorem check_spec (l : List UInt8) (hl : l.length ≤ 140737488355328) (F : HP) (hF : ∀ h, F h → tabsP h) : CallsS Tryd.prog 11 #[sV l] F [] (fun v Ps => v = .int .i64 (checkN l : Int) ∧ Ps = []) := by
  refine callsS_enter Tryd.func11 rfl Tryd.ntmps11 (by simp) (fun E => ?_)
  refine W_seq ?_
  refine W.pre (K' := [(0, _)]) (L' := [(0, _)]) ?_ ⟨rfl, trivial⟩ ⟨rfl, trivial⟩
  refine W_regL (WL_pure rfl rfl (by decide) (Pu_assign rfl rfl) (WL_nil (X_then ?_)))
  refine W_seq ?_
  refine W.pre (K' := [(0, _), (2, _)]) (L' := [(0, _)]) ?_ ⟨rfl, ⟨rfl, trivial⟩⟩ ⟨rfl, trivial⟩
  refine W_regL (WL_pure rfl rfl (by decide) (Pu_move rfl rfl) (WL_pure rfl rfl (by decide) (Pu_bin rfl rfl rfl (run_strEq _ _ _ _ _)) (WL_pure rfl rfl (by decide) (Pu_move rfl rfl) (WL_guardP rfl rfl rfl rfl (by decide) (fun hb => (Pu_move rfl rfl)) (WL_guardP rfl rfl rfl rfl (by decide) (fun hb => (Pu_bin rfl (ev_gv rfl hb) rfl (run_strEq _ _ _ _ _))) (WL_pure rfl rfl (by decide) (Pu_or rfl rfl rfl) (WL_pure rfl rfl (by decide) (Pu_move rfl rfl) (WL_guardP rfl rfl rfl rfl (by decide) (fun hb => (Pu_move rfl rfl)) (WL_guardP rfl rfl rfl rfl (by decide) (fun hb => (Pu_bin rfl (ev_gv rfl hb) rfl (run_strEq _ _ _ _ _))) (WL_pure rfl rfl (by decide) (Pu_or rfl rfl rfl) (WL_pure rfl rfl (by decide) (Pu_assign rfl rfl) (WL_pure rfl rfl (by decide) (Pu_assign rfl rfl) (WL_nil (X_then ?_))))))))))))))
  refine W_seq ?_
  refine W_seq ?_
  refine W.pre (K' := [(0, _), (2, _), (3, _), (4, _)]) (L' := [(0, _)]) ?_ ⟨rfl, ⟨rfl, ⟨rfl, ⟨rfl, trivial⟩⟩⟩⟩ ⟨rfl, trivial⟩
  refine W_regL (WL_pure rfl rfl (by decide) (Pu_move rfl rfl) (WL_cons rfl rfl (by decide) (OpT_range (r := 101) rfl Tryd.underlying9 rfl (fun g101 => (WL_nil (X_then ?_))))))
  refine W_block ?_
  refine W_loop (α := Nat × Nat × Bool) (fun x => [(0, sV l), (3, .int .i64 (x.2.1 : Int)), (4, .bool x.2.2), (20, .pointer (some ⟨g101, 0, none⟩))]) (fun x => [(0, F), (101, iterP g101 (strB l) x.1)]) (fun x => chk (l.drop x.1) x.2.1 x.2.2 = checkN l ∧ x.2.1 ≤ x.1 ∧ x.1 ≤ l.length) (fun x => l.length - x.1) ((0, 0, bad0 l)) ⟨rfl, Nat.le_refl _, Nat.zero_le _⟩ ⟨rfl, ⟨rfl, ⟨rfl, ⟨rfl, trivial⟩⟩⟩⟩ ⟨rfl, ⟨rfl, trivial⟩⟩ (fun x hx => ?_)
  obtain ⟨hchk, hnp, hpl⟩ := hx
  refine W_seq ?_
  refine W.pre (K' := [(0, _), (3, _), (4, _), (20, _)]) (L' := [(0, _), (101, _)]) ?_ ⟨rfl, ⟨rfl, ⟨rfl, ⟨rfl, trivial⟩⟩⟩⟩ ⟨rfl, ⟨rfl, trivial⟩⟩
  rcases Nat.lt_or_ge (x.1) (l.length) with hnx3 | hnx3
  ·
    have hne : l.drop x.1 ≠ [] := by intro hc; have := congrArg List.length hc; simp at this; omega
    have hw := decodeL_width (l.drop x.1)
    have hle := decodeL_le (l.drop x.1) hne
    rw [List.length_drop] at hle
    refine W_regL (WL_cons rfl rfl (by decide) (OpT_nextL (r := 101) rfl rfl rfl hnx3 ?_))
    refine (WL_pure rfl rfl (by decide) (Pu_extract rfl rfl rfl) (WL_nil (X_then ?_)))
    refine W_seq ?_
    refine W_true rfl (rfl) ?_
    refine W_skip (X_then ?_)
    refine W_block ?_
    refine W_seq ?_
    refine W.pre (K' := [(0, _), (3, _), (4, _), (20, _), (21, _), (22, _)]) (L' := [(0, _), (101, _)]) ?_ ⟨rfl, ⟨rfl, ⟨rfl, ⟨rfl, ⟨rfl, ⟨rfl, trivial⟩⟩⟩⟩⟩⟩ ⟨rfl, ⟨rfl, trivial⟩⟩
    refine W_regL (WL_pure rfl rfl (by decide) (Pu_extract rfl rfl rfl) (WL_pure rfl rfl (by decide) (Pu_extract rfl rfl rfl) (WL_pure rfl rfl (by decide) (Pu_assign rfl rfl) (WL_pure rfl rfl (by decide) (Pu_assign rfl rfl) (WL_nil (X_then ?_))))))
    refine W_seq ?_
    refine W_seq ?_
    refine W.pre (K' := [(0, _), (3, _), (4, _), (5, _), (6, _), (20, _), (21, _), (22, _)]) (L' := [(0, _), (101, _)]) ?_ ⟨rfl, ⟨rfl, ⟨rfl, ⟨rfl, ⟨rfl, ⟨rfl, ⟨rfl, ⟨rfl, trivial⟩⟩⟩⟩⟩⟩⟩⟩ ⟨rfl, ⟨rfl, trivial⟩⟩
    refine W_regL (WL_pure rfl rfl (by decide) (Pu_move rfl rfl) (WL_pure rfl rfl (by decide) (Pu_move rfl rfl) (WL_pure rfl rfl (by decide) (Pu_sliceStrE (a := x.1) rfl Tryd.underlying9 rfl (.inr ⟨_, _, _, rfl, rfl, rfl⟩) (.inl ⟨rfl, rfl⟩) (by omega) (Nat.le_refl _) (take_rest _ _)) (WL_cons rfl rfl (by decide) (OpT_call 200 [0, 101] [] rfl Tryd.call18 rfl rfl rfl (by decide) (by decide) (decode_spec (l.drop x.1) hne _ (tabs_star 0 rfl hF)) (fun v29 Ps29 hR29 => ?_))))))
    obtain ⟨rfl, rfl⟩ := hR29
    refine (WL_pure rfl rfl (by decide) (Pu_move rfl rfl) (WL_pure rfl rfl (by decide) (Pu_extract rfl rfl rfl) (WL_pure rfl rfl (by decide) (Pu_extract rfl rfl rfl) (WL_pure rfl rfl (by decide) (Pu_assign rfl rfl) (WL_pure rfl rfl (by decide) (Pu_assign rfl rfl) (WL_nil (X_then ?_)))))))
    refine W_seq ?_
    refine W.pre (K' := [(0, _), (3, _), (4, _), (5, _), (6, _), (8, _), (20, _), (21, _), (22, _)]) (L' := [(0, _), (101, _)]) ?_ ⟨rfl, ⟨rfl, ⟨rfl, ⟨rfl, ⟨rfl, ⟨rfl, ⟨rfl, ⟨rfl, ⟨rfl, trivial⟩⟩⟩⟩⟩⟩⟩⟩⟩ ⟨rfl, ⟨rfl, trivial⟩⟩
    refine W_regL (WL_pure rfl rfl (by decide) (Pu_move rfl rfl) (WL_pure rfl rfl (by decide) (Pu_bin rfl rfl rfl (run_eql _ _ _ _ _ _)) (WL_pure rfl rfl (by decide) (Pu_move rfl rfl) (WL_guardP rfl rfl rfl rfl (by decide) (fun hb => (Pu_move rfl rfl)) (WL_guardP rfl rfl rfl rfl (by decide) (fun hb => (Pu_bin rfl (ev_gv rfl hb) rfl (run_leq _ _ _ _ _ _))) (WL_pure rfl rfl (by decide) (Pu_and rfl rfl rfl) (WL_nil (X_then ?_))))))))
    refine W_cond rfl (fun hc37 => ?_) (fun hc37 => ?_)
    ·
      rw [noRune_eq] at hc37
      refine W_seq ?_
      refine W.pre (K' := [(0, _), (3, _), (4, _), (5, _), (6, _), (8, _), (20, _), (21, _), (22, _), (37, _)]) (L' := [(0, _), (101, _)]) ?_ ⟨rfl, ⟨rfl, ⟨rfl, ⟨rfl, ⟨rfl, ⟨rfl, ⟨rfl, ⟨rfl, ⟨rfl, ⟨rfl, trivial⟩⟩⟩⟩⟩⟩⟩⟩⟩⟩ ⟨rfl, ⟨rfl, trivial⟩⟩
      refine W_regL (WL_pure rfl rfl (by decide) (Pu_assign rfl rfl) (WL_nil (X_then ?_)))
      refine W_ret (X_then_ret (X_block_ret (X_then_ret (X_block_ret (X_then_ret ?_)))))
      exact X_ret [] (Ps := []) (res1 Tryd.results11 rfl) rfl (by decide) ⟨by rw [← hchk, chk_none hne hc37]; rfl, rfl⟩
    ·
      rw [noRune_eq] at hc37
      have hno := hc37
      refine W_skip (X_then ?_)
      refine W_seq ?_
      refine W.pre (K' := [(0, _), (3, _), (4, _), (5, _), (6, _), (8, _), (20, _), (21, _), (22, _), (37, _)]) (L' := [(0, _), (101, _)]) ?_ ⟨rfl, ⟨rfl, ⟨rfl, ⟨rfl, ⟨rfl, ⟨rfl, ⟨rfl, ⟨rfl, ⟨rfl, ⟨rfl, trivial⟩⟩⟩⟩⟩⟩⟩⟩⟩⟩ ⟨rfl, ⟨rfl, trivial⟩⟩
      refine W_regL (WL_pure rfl rfl (by decide) (Pu_move rfl rfl) (WL_pure rfl rfl (by decide) (Pu_bin rfl rfl rfl (run_add _ _ _ _ _ (by omega))) (WL_pure rfl rfl (by decide) (Pu_assign rfl rfl) (WL_nil (X_then ?_)))))
      refine W.pre (K' := [(0, _), (3, _), (4, _), (5, _), (6, _), (8, _), (20, _), (21, _), (22, _), (37, _)]) (L' := [(0, _), (101, _)]) ?_ ⟨rfl, ⟨rfl, ⟨rfl, ⟨rfl, ⟨rfl, ⟨rfl, ⟨rfl, ⟨rfl, ⟨rfl, ⟨rfl, trivial⟩⟩⟩⟩⟩⟩⟩⟩⟩⟩ ⟨rfl, ⟨rfl, trivial⟩⟩
      rcases Bool.eq_false_or_eq_true (x.2.2) with hsp9 | hsp9
      ·
        refine W_regL (WL_pure rfl rfl (by decide) (Pu_move rfl rfl) (WL_pure rfl rfl (by decide) (Pu_move rfl rfl) (WL_gF rfl rfl rfl (by rw [hsp9]; rfl) rfl (by decide) (WL_gF rfl rfl rfl (by rw [hsp9]; rfl) rfl (by decide) (WL_pure rfl rfl (by decide) (Pu_pickT rfl rfl hsp9 rfl) (WL_pure rfl rfl (by decide) (Pu_assign rfl rfl) (WL_nil (X_block ?_))))))))
        exact X_round (x.1 + (decodeL (l.drop x.1)).2, x.2.1 + 1, (x.2.2 || wrongR (decodeL (l.drop x.1)).1)) ⟨by rw [← hchk, chk_some hne hno, List.drop_drop], by show x.2.1 + 1 ≤ x.1 + _; omega, by show x.1 + _ ≤ l.length; omega⟩ (by show l.length - (x.1 + _) < l.length - x.1; omega) ⟨rfl, rfl, congrArg some (show Value.bool true = Value.bool (x.2.2 || wrongR (decodeL (l.drop x.1)).1) by rw [hsp9]; rfl), rfl, trivial⟩ ⟨rfl, rfl, trivial⟩
      ·
        refine W_regL (WL_pure rfl rfl (by decide) (Pu_move rfl rfl) (WL_pure rfl rfl (by decide) (Pu_move rfl rfl) (WL_gPT rfl rfl rfl (by rw [hsp9]; rfl) rfl (by decide) (Pu_move rfl rfl) (WL_gT rfl rfl rfl (by rw [hsp9]; rfl) rfl (by decide) (OpT_call 300 [0, 101] [] rfl Tryd.call19 rfl rfl rfl (by decide) (by decide) (wrong_spec (decodeL (l.drop x.1)).1 _) (fun v43 Ps43 hR43 => ?_))))))
        obtain ⟨rfl, rfl⟩ := hR43
        refine (WL_pure rfl rfl (by decide) (Pu_pickF rfl rfl hsp9 rfl) (WL_pure rfl rfl (by decide) (Pu_assign rfl rfl) (WL_nil (X_block ?_))))
        exact X_round (x.1 + (decodeL (l.drop x.1)).2, x.2.1 + 1, (x.2.2 || wrongR (decodeL (l.drop x.1)).1)) ⟨by rw [← hchk, chk_some hne hno, List.drop_drop], by show x.2.1 + 1 ≤ x.1 + _; omega, by show x.1 + _ ≤ l.length; omega⟩ (by show l.length - (x.1 + _) < l.length - x.1; omega) ⟨rfl, rfl, congrArg some (show Value.bool (wrongR (decodeL (l.drop x.1)).1) = Value.bool (x.2.2 || wrongR (decodeL (l.drop x.1)).1) by rw [hsp9]; rfl), rfl, trivial⟩ ⟨rfl, rfl, trivial⟩
  ·
    have hend : l.drop x.1 = [] := List.drop_of_length_le hnx3
    rw [hend, chk_nil] at hchk
    refine W_regL (WL_cons rfl rfl (by decide) (OpT_nextLE (r := 101) rfl rfl rfl hnx3 ?_))
    refine (WL_pure rfl rfl (by decide) (Pu_extract rfl rfl rfl) (WL_nil (X_then ?_)))
    refine W_seq ?_
    refine W_false rfl (rfl) ?_
    refine W_exit (X_then_exit (X_then_exit (X_block_exit (X_then ?_))))
    refine W_seq ?_
    refine W_block ?_
    refine W_seq ?_
    refine W.pre (K' := [(0, _), (3, _), (4, _), (20, _), (21, _), (22, _)]) (L' := [(0, _), (101, _)]) ?_ ⟨rfl, ⟨rfl, ⟨rfl, ⟨rfl, ⟨rfl, ⟨rfl, trivial⟩⟩⟩⟩⟩⟩ ⟨rfl, ⟨rfl, trivial⟩⟩
    refine W_regL (WL_pure rfl rfl (by decide) (Pu_move rfl rfl) (WL_pure rfl rfl (by decide) (Pu_assign rfl rfl) (WL_nil (X_then ?_))))
    refine W_cond rfl (fun hc45 => ?_) (fun hc45 => ?_)
    ·
      have hb := hc45
      refine W_seq ?_
      refine W.pre (K' := [(0, _), (3, _), (4, _), (20, _), (21, _), (22, _), (45, _)]) (L' := [(0, _), (101, _)]) ?_ ⟨rfl, ⟨rfl, ⟨rfl, ⟨rfl, ⟨rfl, ⟨rfl, ⟨rfl, trivial⟩⟩⟩⟩⟩⟩⟩ ⟨rfl, ⟨rfl, trivial⟩⟩
      refine W_regL (WL_pure rfl rfl (by decide) (Pu_assign rfl rfl) (WL_nil (X_then ?_)))
      refine W_ret (X_block_ret (X_then_ret ?_))
      exact X_ret [] (Ps := []) (res1 Tryd.results11 rfl) rfl (by decide) ⟨by rw [← hchk, finC, hb]; rfl, rfl⟩
    ·
      have hb := hc45
      refine W_seq ?_
      refine W.pre (K' := [(0, _), (3, _), (4, _), (20, _), (21, _), (22, _), (45, _)]) (L' := [(0, _), (101, _)]) ?_ ⟨rfl, ⟨rfl, ⟨rfl, ⟨rfl, ⟨rfl, ⟨rfl, ⟨rfl, trivial⟩⟩⟩⟩⟩⟩⟩ ⟨rfl, ⟨rfl, trivial⟩⟩
      refine W_regL (WL_pure rfl rfl (by decide) (Pu_move rfl rfl) (WL_pure rfl rfl (by decide) (Pu_bin rfl rfl rfl (run_gtr _ _ _ _ _ _)) (WL_pure rfl rfl (by decide) (Pu_assign rfl rfl) (WL_nil (X_then ?_)))))
      refine W_cond rfl (fun hc47 => ?_) (fun hc47 => ?_)
      ·
        have hb2 := of_decide_eq_true hc47
        refine W_seq ?_
        refine W.pre (K' := [(0, _), (3, _), (4, _), (20, _), (21, _), (22, _), (45, _), (47, _)]) (L' := [(0, _), (101, _)]) ?_ ⟨rfl, ⟨rfl, ⟨rfl, ⟨rfl, ⟨rfl, ⟨rfl, ⟨rfl, ⟨rfl, trivial⟩⟩⟩⟩⟩⟩⟩⟩ ⟨rfl, ⟨rfl, trivial⟩⟩
        refine W_regL (WL_pure rfl rfl (by decide) (Pu_assign rfl rfl) (WL_nil (X_then ?_)))
        refine W_ret (X_block_ret (X_then_ret ?_))
        exact X_ret [] (Ps := []) (res1 Tryd.results11 rfl) rfl (by decide) ⟨by rw [← hchk, finC, hb, if_neg (by decide), if_pos (by omega)]; rfl, rfl⟩
      ·
        have hb2 := of_decide_eq_false hc47
        refine W_skip (X_block (X_then ?_))
        refine W_seq ?_
        refine W.pre (K' := [(0, _), (3, _), (4, _), (20, _), (21, _), (22, _), (45, _), (47, _)]) (L' := [(0, _), (101, _)]) ?_ ⟨rfl, ⟨rfl, ⟨rfl, ⟨rfl, ⟨rfl, ⟨rfl, ⟨rfl, ⟨rfl, trivial⟩⟩⟩⟩⟩⟩⟩⟩ ⟨rfl, ⟨rfl, trivial⟩⟩
        refine W_regL (WL_pure rfl rfl (by decide) (Pu_assign rfl rfl) (WL_nil (X_then ?_)))
        refine W_ret ?_
        exact X_ret [] (Ps := []) (res1 Tryd.results11 rfl) rfl (by decide) ⟨by rw [← hchk, finC, hb, if_neg (by decide), if_neg (by omega)]; rfl, rfl⟩
end Go.Proofs.YtjiafaiklmbbeaaDoor
