/- latticeref3: paths are split and joined. -/
import Derived.Test.YtjiafaiklmbbeaaDoorNamesC
import Derived.Test.YtjiafaiklmbbeaaDoorTiN
namespace Go.Proofs.YtjiafaiklmbbeaaDoor
open Go.RowKit Go.Lib
set_option linter.unusedVariables false
set_option linter.unusedSimpArgs false

theorem beq_false_of {b : Bool} (h : (b == false) = true) : b = false := by simpa using h
theorem dec47 (x : UInt8) : decide (((x.toNat : Nat) : Int) = 47) = (x == 47) := by
  apply Bool.eq_iff_iff.2
  simp only [decide_eq_true_eq, beq_iff_eq]
  constructor
  · intro h
    have : x.toNat = 47 := by omega
    exact UInt8.toNat_inj.1 this
  · intro h; subst h; rfl
def RS (l : List UInt8) (i at' : Nat) (acc : List (List UInt8)) : Prop :=
  ((i ≤ l.length ∧ at' ≤ i ∧ 1 ≤ at' ∧ acc ++ splitG ((l.drop at').take (i - at')) (l.drop i) = splitL (l.drop 1)) ∨ (i = l.length + 1 ∧ acc = splitL (l.drop 1))) ∧ acc.length ≤ i ∧ i ≤ l.length + 1
theorem RS_init {l : List UInt8} (h : 1 ≤ l.length) : RS l 1 1 [] := ⟨.inl ⟨h, Nat.le_refl _, Nat.le_refl _, by simp [splitG_nil]⟩, by simp, by omega⟩
theorem RS_cut {l : List UInt8} {i a : Nat} {acc : List (List UInt8)} (h : RS l i a acc) (hi : i ≤ l.length) (hc : (decide ((i : Int) = (l.length : Int)) || decide (((at0 l i).toNat : Int) = 47)) = true) : RS l (i + 1) (i + 1) (acc ++ [(l.drop a).take (i - a)]) := by
  obtain ⟨h1, h2, _⟩ := h
  rcases h1 with ⟨_, ha, h1a, h3⟩ | ⟨h1, _⟩
  · refine ⟨?_, by simp; omega, by omega⟩
    rcases Nat.lt_or_ge i l.length with hlt | hge
    · rw [dec47] at hc
      simp only [Bool.or_eq_true, decide_eq_true_eq, beq_iff_eq] at hc
      have hc' : at0 l i = 47 := hc.resolve_left (by omega)
      refine .inl ⟨by omega, Nat.le_refl _, by omega, ?_⟩
      rw [← h3, splitG_stroke hlt hc']
      simp
    · refine .inr ⟨by omega, ?_⟩
      rw [← h3, splitG_end hge]
  · omega
theorem RS_go {l : List UInt8} {i a : Nat} {acc : List (List UInt8)} (h : RS l i a acc) (hi : i ≤ l.length) (hc : (decide ((i : Int) = (l.length : Int)) || decide (((at0 l i).toNat : Int) = 47)) = false) : RS l (i + 1) a acc := by
  obtain ⟨h1, h2, _⟩ := h
  rw [dec47] at hc
  simp only [Bool.or_eq_false_iff, decide_eq_false_iff_not, beq_eq_false_iff_ne, ne_eq] at hc
  have hlt : i < l.length := by omega
  rcases h1 with ⟨_, ha, h1a, h3⟩ | ⟨h1, _⟩
  · refine ⟨.inl ⟨by omega, by omega, h1a, ?_⟩, by omega, by omega⟩
    rw [← h3, splitG_more hlt hc.2, take_more ha hlt]
  · omega
theorem RS_end {l : List UInt8} {i a : Nat} {acc : List (List UInt8)} (h : RS l i a acc) (hi : ¬ i ≤ l.length) : acc = splitL (l.drop 1) := by
  obtain ⟨h1, h2, _⟩ := h
  rcases h1 with ⟨h, _⟩ | ⟨_, h⟩
  · omega
  · exact h
theorem RS_at {l : List UInt8} {i a : Nat} {acc : List (List UInt8)} (h : RS l i a acc) (hi : i ≤ l.length) : a ≤ i := by
  obtain ⟨h1, h2, _⟩ := h
  rcases h1 with ⟨_, h, _⟩ | ⟨h, _⟩ <;> omega
theorem noPath_ref {l : List UInt8} (h : 0 < l.length) : ((!decide (((at0 l 0).toNat : Int) = 47)) || decide (((at0 l (l.length - 1)).toNat : Int) = 47)) = noPath l := by
  rw [noPath_eq h, dec47, dec47]
theorem split_rspec (l : List UInt8) (hl : l.length < 4294967281) (F : HP) : CallsS Tryd.prog 17 #[sV l] F [] (fun r Ps => ∃ v, r = .tuple #[v, .int .i64 ((splitN l).2 : Int)] ∧ Ps = [rowS 9 v (splitN l).1]) := by
  refine callsS_enter Tryd.func17 rfl Tryd.ntmps17 (by simp) (fun E => ?_)
  refine W_seq ?_
  refine W.pre (K' := [(0, _)]) (L' := [(0, _)]) ?_ ⟨rfl, trivial⟩ ⟨rfl, trivial⟩
  refine W_regL (WL_pure rfl rfl (by decide) (Pu_assign rfl rfl) (WL_pure rfl rfl (by decide) (Pu_assign rfl rfl) (WL_nil (X_then ?_))))
  refine W_seq ?_
  refine W_seq ?_
  refine W.pre (K' := [(0, _), (2, _), (3, _)]) (L' := [(0, _)]) ?_ ⟨rfl, ⟨rfl, ⟨rfl, trivial⟩⟩⟩ ⟨rfl, trivial⟩
  refine W_regL (WL_pure rfl rfl (by decide) (Pu_move rfl rfl) (WL_pure rfl rfl (by decide) (Pu_bin rfl rfl rfl (run_strEq _ _ _ _ _)) (WL_nil (X_then ?_))))
  refine W_cond rfl (fun hc9 => ?_) (fun hc9 => ?_)
  ·
    have h1 : l = [47] := by simpa using hc9
    refine W_seq ?_
    refine W.pre (K' := [(0, _), (2, _), (3, _), (9, _)]) (L' := [(0, _)]) ?_ ⟨rfl, ⟨rfl, ⟨rfl, ⟨rfl, trivial⟩⟩⟩⟩ ⟨rfl, trivial⟩
    refine W_regL (WL_pure rfl rfl (by decide) (Pu_assign rfl rfl) (WL_pure rfl rfl (by decide) (Pu_assign rfl rfl) (WL_nil (X_then ?_))))
    refine W_ret (X_then_ret ?_)
    have hs : splitN l = ([], 0) := by unfold splitN; rw [if_pos h1]
    refine X_nilRow 9900 9 1 ?_
    exact X_ret [9900] (Ps := [_]) (res2 Tryd.results17 rfl rfl) rfl (by decide) ⟨_, by rw [hs] <;> rfl, by rw [hs] <;> rfl⟩
  ·
    have h1 : ¬ l = [47] := by simpa using hc9
    refine W_skip (X_then ?_)
    refine W_seq ?_
    refine W_seq ?_
    refine W.pre (K' := [(0, _), (2, _), (3, _), (9, _)]) (L' := [(0, _)]) ?_ ⟨rfl, ⟨rfl, ⟨rfl, ⟨rfl, trivial⟩⟩⟩⟩ ⟨rfl, trivial⟩
    rcases Bool.eq_false_or_eq_true (decide ((l.length : Int) = 0)) with hsp3 | hsp3
    ·
      have hnp : noPath l = true := by have := of_decide_eq_true hsp3; rw [List.eq_nil_of_length_eq_zero (by omega : l.length = 0)]; rfl
      refine W_regL (WL_pure rfl rfl (by decide) (Pu_move rfl rfl) (WL_pure rfl rfl (by decide) (Pu_lenStr rfl Tryd.underlying9 rfl) (WL_pure rfl rfl (by decide) (Pu_bin rfl rfl rfl (run_eql _ _ _ _ _ _)) (WL_pure rfl rfl (by decide) (Pu_move rfl rfl) (WL_gF rfl rfl rfl (by rw [hsp3]; rfl) rfl (by decide) (WL_gF rfl rfl rfl (by rw [hsp3]; rfl) rfl (by decide) (WL_gF rfl rfl rfl (by rw [hsp3]; rfl) rfl (by decide) (WL_pure rfl rfl (by decide) (Pu_pickT rfl rfl hsp3 rfl) (WL_pure rfl rfl (by decide) (Pu_move rfl rfl) (WL_gF rfl rfl rfl rfl rfl (by decide) (WL_gF rfl rfl rfl rfl rfl (by decide) (WL_gF rfl rfl rfl rfl rfl (by decide) (WL_gF rfl rfl rfl rfl rfl (by decide) (WL_gF rfl rfl rfl rfl rfl (by decide) (WL_gF rfl rfl rfl rfl rfl (by decide) (WL_pure rfl rfl (by decide) (Pu_pickT rfl rfl rfl rfl) (WL_nil (X_then ?_))))))))))))))))))
      refine W_true rfl (rfl) ?_
      refine W_seq ?_
      refine W.pre (K' := [(0, _), (2, _), (3, _), (9, _), (25, _)]) (L' := [(0, _)]) ?_ ⟨rfl, ⟨rfl, ⟨rfl, ⟨rfl, ⟨rfl, trivial⟩⟩⟩⟩⟩ ⟨rfl, trivial⟩
      refine W_regL (WL_pure rfl rfl (by decide) (Pu_assign rfl rfl) (WL_pure rfl rfl (by decide) (Pu_assign rfl rfl) (WL_nil (X_then ?_))))
      refine W_ret (X_then_ret ?_)
      have hs : splitN l = ([], 10) := by unfold splitN; rw [if_neg h1, if_pos hnp]
      refine X_nilRow 9900 9 1 ?_
      exact X_ret [9900] (Ps := [_]) (res2 Tryd.results17 rfl rfl) rfl (by decide) ⟨_, by rw [hs] <;> rfl, by rw [hs] <;> rfl⟩
    ·
      have hpos : 0 < l.length := by have := of_decide_eq_false hsp3; omega
      refine W_regL (WL_pure rfl rfl (by decide) (Pu_move rfl rfl) (WL_pure rfl rfl (by decide) (Pu_lenStr rfl Tryd.underlying9 rfl) (WL_pure rfl rfl (by decide) (Pu_bin rfl rfl rfl (run_eql _ _ _ _ _ _)) (WL_pure rfl rfl (by decide) (Pu_move rfl rfl) (WL_gPT rfl rfl rfl (by rw [hsp3]; rfl) rfl (by decide) (Pu_move rfl rfl) (WL_gPT rfl rfl rfl (by rw [hsp3]; rfl) rfl (by decide) (Pu_idxStrN (0) rfl Tryd.underlying9 rfl rfl rfl hpos) (WL_gPT rfl rfl rfl (by rw [hsp3]; rfl) rfl (by decide) (Pu_bin rfl rfl rfl (run_neq _ _ _ _ _ _)) (WL_pure rfl rfl (by decide) (Pu_pickF rfl rfl hsp3 rfl) (WL_pure rfl rfl (by decide) (Pu_move rfl rfl) (WL_guardP rfl rfl rfl rfl (by decide) (fun hb => (Pu_move rfl rfl)) (WL_guardP rfl rfl rfl rfl (by decide) (fun hb => (Pu_move rfl rfl)) (WL_guardP rfl rfl rfl rfl (by decide) (fun hb => (Pu_lenStr rfl Tryd.underlying9 (ev_gv rfl hb))) (WL_guardP rfl rfl rfl rfl (by decide) (fun hb => (Pu_bin rfl (ev_gv rfl hb) rfl (run_sub _ _ _ _ _ (by omega)))) (WL_guardP rfl rfl rfl rfl (by decide) (fun hb => (Pu_idxStrN (l.length - 1) rfl Tryd.underlying9 (ev_gv rfl hb) (ev_gv rfl hb) (by omega) (by omega))) (WL_guardP rfl rfl rfl rfl (by decide) (fun hb => (Pu_bin rfl (ev_gv rfl hb) rfl (run_eql _ _ _ _ _ _))) (WL_pure rfl rfl (by decide) (Pu_or rfl rfl rfl) (WL_nil (X_then ?_))))))))))))))))))
      refine W_cond rfl (fun hc25 => ?_) (fun hc25 => ?_)
      ·
        have hnp : noPath l = true := (noPath_ref hpos).symm.trans hc25
        refine W_seq ?_
        refine W.pre (K' := [(0, _), (2, _), (3, _), (9, _), (25, _)]) (L' := [(0, _)]) ?_ ⟨rfl, ⟨rfl, ⟨rfl, ⟨rfl, ⟨rfl, trivial⟩⟩⟩⟩⟩ ⟨rfl, trivial⟩
        refine W_regL (WL_pure rfl rfl (by decide) (Pu_assign rfl rfl) (WL_pure rfl rfl (by decide) (Pu_assign rfl rfl) (WL_nil (X_then ?_))))
        refine W_ret (X_then_ret ?_)
        have hs : splitN l = ([], 10) := by unfold splitN; rw [if_neg h1, if_pos hnp]
        refine X_nilRow 9900 9 1 ?_
        exact X_ret [9900] (Ps := [_]) (res2 Tryd.results17 rfl rfl) rfl (by decide) ⟨_, by rw [hs] <;> rfl, by rw [hs] <;> rfl⟩
      ·
        have hnp : noPath l = false := (noPath_ref hpos).symm.trans hc25
        refine W_skip (X_then ?_)
        refine W_seq ?_
        refine W.pre (K' := [(0, _), (2, _), (3, _), (9, _), (25, _)]) (L' := [(0, _)]) ?_ ⟨rfl, ⟨rfl, ⟨rfl, ⟨rfl, ⟨rfl, trivial⟩⟩⟩⟩⟩ ⟨rfl, trivial⟩
        refine W_regL (WL_pure rfl rfl (by decide) (Pu_assign rfl rfl) (WL_nil (X_then ?_)))
        refine W_seq ?_
        refine W.pre (K' := [(0, _), (2, _), (3, _), (4, _), (9, _), (25, _)]) (L' := [(0, _)]) ?_ ⟨rfl, ⟨rfl, ⟨rfl, ⟨rfl, ⟨rfl, ⟨rfl, trivial⟩⟩⟩⟩⟩⟩ ⟨rfl, trivial⟩
        refine W_regL (WL_pure rfl rfl (by decide) (Pu_assign rfl rfl) (WL_nil (X_then ?_)))
        refine W_seq ?_
        refine W_seq ?_
        refine W.pre (K' := [(0, _), (2, _), (3, _), (4, _), (5, _), (9, _), (25, _)]) (L' := [(0, _)]) ?_ ⟨rfl, ⟨rfl, ⟨rfl, ⟨rfl, ⟨rfl, ⟨rfl, ⟨rfl, trivial⟩⟩⟩⟩⟩⟩⟩ ⟨rfl, trivial⟩
        refine W_regL (WL_pure rfl rfl (by decide) (Pu_assign rfl rfl) (WL_nil (X_then ?_)))
        refine W_block ?_
        refine W_nilRow 101 9 1 ?_
        refine W_loop (α := Nat × Nat × Value × List (List UInt8)) (fun x => [(0, sV l), (4, x.2.2.1), (5, .int .i64 (x.2.1 : Int)), (6, .int .i64 (x.1 : Int))]) (fun x => [(0, F), (101, rowS 9 x.2.2.1 x.2.2.2)]) (fun x => RS l x.1 x.2.1 x.2.2.2) (fun x => l.length + 1 - x.1) ((1, 1, .slice none 0 0, [])) (RS_init hpos) ⟨rfl, ⟨rfl, ⟨rfl, ⟨rfl, trivial⟩⟩⟩⟩ ⟨rfl, ⟨rfl, trivial⟩⟩ (fun x hx => ?_)
        have hacc := hx.2
        refine W_seq ?_
        refine W_seq ?_
        refine W.pre (K' := [(0, _), (4, _), (5, _), (6, _)]) (L' := [(0, _), (101, _)]) ?_ ⟨rfl, ⟨rfl, ⟨rfl, ⟨rfl, trivial⟩⟩⟩⟩ ⟨rfl, ⟨rfl, trivial⟩⟩
        refine W_regL (WL_pure rfl rfl (by decide) (Pu_move rfl rfl) (WL_pure rfl rfl (by decide) (Pu_move rfl rfl) (WL_pure rfl rfl (by decide) (Pu_lenStr rfl Tryd.underlying9 rfl) (WL_pure rfl rfl (by decide) (Pu_bin rfl rfl rfl (run_leq _ _ _ _ _ _)) (WL_nil (X_then ?_))))))
        refine W_cond rfl (fun hc29 => ?_) (fun hc29 => ?_)
        ·
          have hle : x.1 ≤ l.length := by have := of_decide_eq_true hc29; omega
          have hat := RS_at hx hle
          refine W_skip (X_then ?_)
          refine W_seq ?_
          refine W_block ?_
          refine W_seq ?_
          refine W.pre (K' := [(0, _), (4, _), (5, _), (6, _), (29, _)]) (L' := [(0, _), (101, _)]) ?_ ⟨rfl, ⟨rfl, ⟨rfl, ⟨rfl, ⟨rfl, trivial⟩⟩⟩⟩⟩ ⟨rfl, ⟨rfl, trivial⟩⟩
          refine W_regL (WL_pure rfl rfl (by decide) (Pu_move rfl rfl) (WL_pure rfl rfl (by decide) (Pu_move rfl rfl) (WL_pure rfl rfl (by decide) (Pu_lenStr rfl Tryd.underlying9 rfl) (WL_pure rfl rfl (by decide) (Pu_bin rfl rfl rfl (run_eql _ _ _ _ _ _)) (WL_pure rfl rfl (by decide) (Pu_move rfl rfl) (WL_guardP rfl rfl rfl rfl (by decide) (fun hb => (Pu_move rfl rfl)) (WL_guardP rfl rfl rfl rfl (by decide) (fun hb => (Pu_move rfl rfl)) (WL_guardP rfl rfl rfl rfl (by decide) (fun hb => (Pu_idxStrN (x.1) rfl Tryd.underlying9 (ev_gv rfl hb) (ev_gv rfl hb) rfl (by have := of_decide_eq_false (beq_false_of hb); omega))) (WL_guardP rfl rfl rfl rfl (by decide) (fun hb => (Pu_bin rfl (ev_gv rfl hb) rfl (run_eql _ _ _ _ _ _))) (WL_pure rfl rfl (by decide) (Pu_or rfl rfl rfl) (WL_nil (X_then ?_))))))))))))
          refine W_cond rfl (fun hc41 => ?_) (fun hc41 => ?_)
          ·
            refine W_seq ?_
            refine W.pre (K' := [(0, _), (4, _), (5, _), (6, _), (29, _), (41, _)]) (L' := [(0, _), (101, _)]) ?_ ⟨rfl, ⟨rfl, ⟨rfl, ⟨rfl, ⟨rfl, ⟨rfl, trivial⟩⟩⟩⟩⟩⟩ ⟨rfl, ⟨rfl, trivial⟩⟩
            unfold rowS
            refine W_regL (WL_pure rfl rfl (by decide) (Pu_move rfl rfl) (WL_pure rfl rfl (by decide) (Pu_move rfl rfl) (WL_pure rfl rfl (by decide) (Pu_move rfl rfl) (WL_pure rfl rfl (by decide) (Pu_move rfl rfl) (WL_pure rfl rfl (by decide) (Pu_sliceStrE (a := x.2.1) (b := x.1) rfl Tryd.underlying9 rfl (.inr ⟨_, _, _, rfl, rfl, rfl⟩) (.inr ⟨_, _, _, rfl, rfl, rfl⟩) (by omega) (by omega) rfl) (WL_cons rfl rfl (by decide) (OpT_buildOnes (r := 102) [sV ((l.drop x.2.1).take (x.1 - x.2.1))] rfl rfl Tryd.runUnderlying30 Tryd.sizeOf9 Tryd.zeroValue9 rfl rfl (by decide) rfl (by simp [Value.cells]) (fun v47 => (WL_cons rfl rfl (by decide) (OpT_append (r := 101) (r2 := 102) rfl Tryd.underlying30 TI.hi9 TI.hz9 TI.hs9 TI.hby9 TI.hzs9 (by decide) rfl rfl rfl rfl (fun _ h => rowP_rd h) (ss_one [_]) (by unfold maxLen; omega) (by omega) (fun v48 => ?_)))))))))))
            refine (WL_pure rfl rfl (by decide) (Pu_assign rfl rfl) (WL_nil (X_then ?_)))
            refine W.pre (K' := [(0, _), (4, _), (5, _), (6, _), (29, _), (41, _)]) (L' := [(0, _), (101, _), (102, _)]) ?_ ⟨rfl, ⟨rfl, ⟨rfl, ⟨rfl, ⟨rfl, ⟨rfl, trivial⟩⟩⟩⟩⟩⟩ ⟨rfl, ⟨rfl, ⟨rfl, trivial⟩⟩⟩
            refine W_regL (WL_pure rfl rfl (by decide) (Pu_move rfl rfl) (WL_pure rfl rfl (by decide) (Pu_bin rfl rfl rfl (run_add _ _ _ _ _ (by omega))) (WL_pure rfl rfl (by decide) (Pu_assign rfl rfl) (WL_nil (X_block (X_then ?_))))))
            refine W.pre (K' := [(0, _), (4, _), (5, _), (6, _), (29, _), (41, _)]) (L' := [(0, _), (101, _), (102, _)]) ?_ ⟨rfl, ⟨rfl, ⟨rfl, ⟨rfl, ⟨rfl, ⟨rfl, trivial⟩⟩⟩⟩⟩⟩ ⟨rfl, ⟨rfl, ⟨rfl, trivial⟩⟩⟩
            refine W_regL (WL_pure rfl rfl (by decide) (Pu_move rfl rfl) (WL_pure rfl rfl (by decide) (Pu_bin rfl rfl rfl (run_add _ _ _ _ _ (by omega))) (WL_pure rfl rfl (by decide) (Pu_assign rfl rfl) (WL_nil ?_))))
            exact X_round (x.1 + 1, x.1 + 1, v48, x.2.2.2 ++ [(l.drop x.2.1).take (x.1 - x.2.1)]) (RS_cut hx hle hc41) (by dsimp only; omega) ⟨rfl, rfl, rfl, rfl, trivial⟩ ⟨rfl, look_eq rfl (rowS_of (x.2.2.2 ++ [(l.drop x.2.1).take (x.1 - x.2.1)]) (by simp) (by rw [ss_append]; rfl)), trivial⟩
          ·
            refine W_skip (X_block (X_then ?_))
            refine W.pre (K' := [(0, _), (4, _), (5, _), (6, _), (29, _), (41, _)]) (L' := [(0, _), (101, _)]) ?_ ⟨rfl, ⟨rfl, ⟨rfl, ⟨rfl, ⟨rfl, ⟨rfl, trivial⟩⟩⟩⟩⟩⟩ ⟨rfl, ⟨rfl, trivial⟩⟩
            refine W_regL (WL_pure rfl rfl (by decide) (Pu_move rfl rfl) (WL_pure rfl rfl (by decide) (Pu_bin rfl rfl rfl (run_add _ _ _ _ _ (by omega))) (WL_pure rfl rfl (by decide) (Pu_assign rfl rfl) (WL_nil ?_))))
            exact X_round (x.1 + 1, x.2.1, x.2.2.1, x.2.2.2) (RS_go hx hle hc41) (by dsimp only; omega) ⟨rfl, rfl, rfl, rfl, trivial⟩ ⟨rfl, rfl, trivial⟩
        ·
          have hgt : ¬ x.1 ≤ l.length := by have := of_decide_eq_false hc29; omega
          have hacc2 : x.2.2.2 = splitL (l.drop 1) := RS_end hx hgt
          have hsl := splitL_len (l.drop 1)
          rw [List.length_drop] at hsl
          rw [hacc2]
          refine W_exit (X_then_exit (X_then_exit (X_block_exit (X_then ?_))))
          refine W_seq ?_
          refine W_seq ?_
          refine W.pre (K' := [(0, _), (4, _), (5, _), (6, _), (29, _)]) (L' := [(0, _), (101, _)]) ?_ ⟨rfl, ⟨rfl, ⟨rfl, ⟨rfl, ⟨rfl, trivial⟩⟩⟩⟩⟩ ⟨rfl, ⟨rfl, trivial⟩⟩
          refine W_regL (WL_pure rfl rfl (by decide) (Pu_move rfl rfl) (WL_pure rfl rfl (by decide) (Pu_len (r := 101) rfl Tryd.runUnderlying30 rfl rfl rowS_rd) (WL_pure rfl rfl (by decide) (Pu_bin rfl rfl rfl (run_gtr _ _ _ _ _ _)) (WL_nil (X_then ?_)))))
          refine W_cond rfl (fun hc53 => ?_) (fun hc53 => ?_)
          ·
            have h5 := of_decide_eq_true hc53
            refine W_seq ?_
            refine W.pre (K' := [(0, _), (4, _), (5, _), (6, _), (29, _), (53, _)]) (L' := [(0, _), (101, _)]) ?_ ⟨rfl, ⟨rfl, ⟨rfl, ⟨rfl, ⟨rfl, ⟨rfl, trivial⟩⟩⟩⟩⟩⟩ ⟨rfl, ⟨rfl, trivial⟩⟩
            refine W_regL (WL_pure rfl rfl (by decide) (Pu_assign rfl rfl) (WL_pure rfl rfl (by decide) (Pu_assign rfl rfl) (WL_nil (X_then ?_))))
            refine W_ret (X_then_ret ?_)
            have ha : allN (splitL (l.drop 1)) = 4 := by unfold allN; rw [if_pos (by omega)]
            have hs : splitN l = ([], 4) := by unfold splitN; rw [if_neg h1, if_neg (by simp [hnp]), ha]; rfl
            refine X_nilRow 9900 9 1 ?_
            exact X_ret [9900] (Ps := [_]) (res2 Tryd.results17 rfl rfl) rfl (by decide) ⟨_, by rw [hs] <;> rfl, by rw [hs] <;> rfl⟩
          ·
            have h5 := of_decide_eq_false hc53
            refine W_skip (X_then ?_)
            refine W_seq ?_
            refine W_seq ?_
            refine W.pre (K' := [(0, _), (4, _), (5, _), (6, _), (29, _), (53, _)]) (L' := [(0, _), (101, _)]) ?_ ⟨rfl, ⟨rfl, ⟨rfl, ⟨rfl, ⟨rfl, ⟨rfl, trivial⟩⟩⟩⟩⟩⟩ ⟨rfl, ⟨rfl, trivial⟩⟩
            refine W_regL (WL_pure rfl rfl (by decide) (Pu_assign rfl rfl) (WL_nil (X_then ?_)))
            refine W_block ?_
            refine W_loop (α := Nat) (fun i => [(4, x.2.2.1), (7, .int .i64 (i : Int))]) (fun i => [(0, F), (101, rowS 9 x.2.2.1 (splitL (l.drop 1)))]) (fun i => i ≤ (splitL (l.drop 1)).length ∧ firstBad ((splitL (l.drop 1)).drop i) = firstBad (splitL (l.drop 1))) (fun i => (splitL (l.drop 1)).length - i) (0) ⟨Nat.zero_le _, rfl⟩ ⟨rfl, ⟨rfl, trivial⟩⟩ ⟨rfl, ⟨rfl, trivial⟩⟩ (fun k hk => ?_)
            obtain ⟨hkl, hfb⟩ := hk
            refine W_seq ?_
            refine W_seq ?_
            refine W.pre (K' := [(4, _), (7, _)]) (L' := [(0, _), (101, _)]) ?_ ⟨rfl, ⟨rfl, trivial⟩⟩ ⟨rfl, ⟨rfl, trivial⟩⟩
            refine W_regL (WL_pure rfl rfl (by decide) (Pu_move rfl rfl) (WL_pure rfl rfl (by decide) (Pu_move rfl rfl) (WL_pure rfl rfl (by decide) (Pu_len (r := 101) rfl Tryd.runUnderlying30 rfl rfl rowS_rd) (WL_pure rfl rfl (by decide) (Pu_bin rfl rfl rfl (run_lss _ _ _ _ _ _)) (WL_nil (X_then ?_))))))
            refine W_cond rfl (fun hc57 => ?_) (fun hc57 => ?_)
            ·
              have hlt : k < (splitL (l.drop 1)).length := by have := of_decide_eq_true hc57; omega
              refine W_skip (X_then ?_)
              refine W_seq ?_
              refine W_block ?_
              refine W_seq ?_
              refine W.pre (K' := [(4, _), (7, _), (57, _)]) (L' := [(0, _), (101, _)]) ?_ ⟨rfl, ⟨rfl, ⟨rfl, trivial⟩⟩⟩ ⟨rfl, ⟨rfl, trivial⟩⟩
              refine W_regL (WL_pure rfl rfl (by decide) (Pu_move rfl rfl) (WL_pure rfl rfl (by decide) (Pu_move rfl rfl) (WL_pure rfl rfl (by decide) (Pu_idxS1 (r := 101) rfl Tryd.runUnderlying30 Tryd.sizeOf9 rfl rfl rfl rowS_rd (by omega)) (WL_pure rfl rfl (by decide) (Pu_loadS (r := 101) rfl Tryd.isAgg9 rfl rfl rowS_rd (ss_at hlt)) (WL_cons rfl rfl (by decide) (OpT_call 200 [0, 101] [] rfl Tryd.call12 rfl rfl rfl (by decide) (by decide) (check_rspec ((splitL (l.drop 1)).getD k []) (by have := splitL_mem (getD_mem hlt); simp only [List.length_drop] at this; omega) _) (fun v64 Ps64 hR64 => ?_)))))))
              obtain ⟨rfl, rfl⟩ := hR64
              refine (WL_pure rfl rfl (by decide) (Pu_bin rfl rfl rfl (run_neq _ _ _ _ _ _)) (WL_nil (X_then ?_)))
              refine W_cond rfl (fun hc65 => ?_) (fun hc65 => ?_)
              ·
                have hbad : ¬ (checkN ((splitL (l.drop 1)).getD k []) : Int) = 0 := by simpa using hc65
                refine W_seq ?_
                refine W.pre (K' := [(4, _), (7, _), (57, _), (65, _)]) (L' := [(0, _), (101, _)]) ?_ ⟨rfl, ⟨rfl, ⟨rfl, ⟨rfl, trivial⟩⟩⟩⟩ ⟨rfl, ⟨rfl, trivial⟩⟩
                refine W_regL (WL_pure rfl rfl (by decide) (Pu_move rfl rfl) (WL_pure rfl rfl (by decide) (Pu_move rfl rfl) (WL_pure rfl rfl (by decide) (Pu_idxS1 (r := 101) rfl Tryd.runUnderlying30 Tryd.sizeOf9 rfl rfl rfl rowS_rd (by omega)) (WL_pure rfl rfl (by decide) (Pu_loadS (r := 101) rfl Tryd.isAgg9 rfl rfl rowS_rd (ss_at hlt)) (WL_cons rfl rfl (by decide) (OpT_call 300 [0, 101] [] rfl Tryd.call12 rfl rfl rfl (by decide) (by decide) (check_rspec ((splitL (l.drop 1)).getD k []) (by have := splitL_mem (getD_mem hlt); simp only [List.length_drop] at this; omega) _) (fun v70 Ps70 hR70 => ?_)))))))
                obtain ⟨rfl, rfl⟩ := hR70
                refine (WL_pure rfl rfl (by decide) (Pu_assign rfl rfl) (WL_pure rfl rfl (by decide) (Pu_assign rfl rfl) (WL_nil (X_then ?_))))
                refine W_ret (X_block_ret (X_then_ret (X_then_ret (X_block_ret (X_then_ret ?_)))))
                have ha : allN (splitL (l.drop 1)) = checkN ((splitL (l.drop 1)).getD k []) := by unfold allN; rw [if_neg (by omega), ← hfb, firstBad_bad hlt hbad]
                have hs : splitN l = ([], checkN ((splitL (l.drop 1)).getD k [])) := by unfold splitN; rw [if_neg h1, if_neg (by simp [hnp]), ha, if_pos (by omega)]
                refine X_nilRow 9900 9 1 ?_
                exact X_ret [9900] (Ps := [_]) (res2 Tryd.results17 rfl rfl) rfl (by decide) ⟨_, by rw [hs] <;> rfl, by rw [hs] <;> rfl⟩
              ·
                have hgood : (checkN ((splitL (l.drop 1)).getD k []) : Int) = 0 := by simpa using hc65
                refine W_skip (X_block (X_then ?_))
                refine W.pre (K' := [(4, _), (7, _), (57, _), (65, _)]) (L' := [(0, _), (101, _)]) ?_ ⟨rfl, ⟨rfl, ⟨rfl, ⟨rfl, trivial⟩⟩⟩⟩ ⟨rfl, ⟨rfl, trivial⟩⟩
                refine W_regL (WL_pure rfl rfl (by decide) (Pu_move rfl rfl) (WL_pure rfl rfl (by decide) (Pu_bin rfl rfl rfl (run_add _ _ _ _ _ (by omega))) (WL_pure rfl rfl (by decide) (Pu_assign rfl rfl) (WL_nil ?_))))
                exact X_round (k + 1) ⟨hlt, by rw [← hfb, firstBad_good hlt hgood]⟩ (by omega) ⟨rfl, rfl, trivial⟩ ⟨rfl, rfl, trivial⟩
            ·
              have hge : (splitL (l.drop 1)).length ≤ k := by have := of_decide_eq_false hc57; omega
              refine W_exit (X_then_exit (X_then_exit (X_block_exit (X_then ?_))))
              refine W_seq ?_
              refine W.pre (K' := [(4, _), (7, _), (57, _)]) (L' := [(0, _), (101, _)]) ?_ ⟨rfl, ⟨rfl, ⟨rfl, trivial⟩⟩⟩ ⟨rfl, ⟨rfl, trivial⟩⟩
              refine W_regL (WL_pure rfl rfl (by decide) (Pu_move rfl rfl) (WL_pure rfl rfl (by decide) (Pu_assign rfl rfl) (WL_pure rfl rfl (by decide) (Pu_assign rfl rfl) (WL_nil (X_then ?_)))))
              refine W_ret ?_
              have ha : allN (splitL (l.drop 1)) = 0 := by unfold allN; rw [if_neg (by omega), ← hfb, firstBad_end hge]
              have hs : splitN l = (splitL (l.drop 1), 0) := by unfold splitN; rw [if_neg h1, if_neg (by simp [hnp]), if_neg (fun hc => hc ha)]
              exact X_ret [101] (Ps := [_]) (res2 Tryd.results17 rfl rfl) rfl (by decide) ⟨_, by rw [hs] <;> rfl, by rw [hs]⟩
theorem join_rspec (v : Value) (ls : List (List UInt8)) (hlen : (jn ls).length < 140737488355328) (F : HP) (hF : ∀ h, F h → rdS v ls h) : CallsS Tryd.prog 15 #[v] F [] (fun r Ps => r = .tuple #[sV (joinN ls).1, .int .i64 ((joinN ls).2 : Int)] ∧ Ps = []) := by
  refine callsS_enter Tryd.func15 rfl Tryd.ntmps15 (by simp) (fun E => ?_)
  refine W_seq ?_
  refine W.pre (K' := [(0, _)]) (L' := [(0, _)]) ?_ ⟨rfl, trivial⟩ ⟨rfl, trivial⟩
  refine W_regL (WL_pure rfl rfl (by decide) (Pu_assign rfl rfl) (WL_pure rfl rfl (by decide) (Pu_assign rfl rfl) (WL_nil (X_then ?_))))
  refine W_seq ?_
  refine W_seq ?_
  refine W.pre (K' := [(0, _), (2, _), (3, _)]) (L' := [(0, _)]) ?_ ⟨rfl, ⟨rfl, ⟨rfl, trivial⟩⟩⟩ ⟨rfl, trivial⟩
  refine W_regL (WL_pure rfl rfl (by decide) (Pu_move rfl rfl) (WL_pure rfl rfl (by decide) (Pu_len (r := 0) rfl Tryd.runUnderlying30 rfl rfl hF) (WL_pure rfl rfl (by decide) (Pu_bin rfl rfl rfl (run_gtr _ _ _ _ _ _)) (WL_nil (X_then ?_)))))
  refine W_cond rfl (fun hc8 => ?_) (fun hc8 => ?_)
  ·
    have h5 := of_decide_eq_true hc8
    refine W_seq ?_
    refine W.pre (K' := [(0, _), (2, _), (3, _), (8, _)]) (L' := [(0, _)]) ?_ ⟨rfl, ⟨rfl, ⟨rfl, ⟨rfl, trivial⟩⟩⟩⟩ ⟨rfl, trivial⟩
    refine W_regL (WL_pure rfl rfl (by decide) (Pu_assign rfl rfl) (WL_pure rfl rfl (by decide) (Pu_assign rfl rfl) (WL_nil (X_then ?_))))
    refine W_ret (X_then_ret ?_)
    have hs : joinN ls = ([], 4) := by rw [joinN_eq, show allN ls = 4 by unfold allN; rw [if_pos (by omega)]]; rfl
    exact X_ret [] (Ps := []) (res2 Tryd.results15 rfl rfl) rfl (by decide) ⟨by rw [hs] <;> rfl, rfl⟩
  ·
    have h5 := of_decide_eq_false hc8
    refine W_skip (X_then ?_)
    refine W_seq ?_
    refine W.pre (K' := [(0, _), (2, _), (3, _), (8, _)]) (L' := [(0, _)]) ?_ ⟨rfl, ⟨rfl, ⟨rfl, ⟨rfl, trivial⟩⟩⟩⟩ ⟨rfl, trivial⟩
    refine W_regL (WL_pure rfl rfl (by decide) (Pu_assign rfl rfl) (WL_nil (X_then ?_)))
    refine W_seq ?_
    refine W_seq ?_
    refine W.pre (K' := [(0, _), (2, _), (3, _), (4, _), (8, _)]) (L' := [(0, _)]) ?_ ⟨rfl, ⟨rfl, ⟨rfl, ⟨rfl, ⟨rfl, trivial⟩⟩⟩⟩⟩ ⟨rfl, trivial⟩
    refine W_regL (WL_pure rfl rfl (by decide) (Pu_assign rfl rfl) (WL_nil (X_then ?_)))
    refine W_block ?_
    refine W_loop (α := Nat) (fun i => [(0, v), (4, sV (jn (ls.take i))), (5, .int .i64 (i : Int))]) (fun i => [(0, F)]) (fun i => i ≤ ls.length ∧ firstBad (ls.drop i) = firstBad ls) (fun i => ls.length - i) (0) ⟨Nat.zero_le _, rfl⟩ ⟨rfl, ⟨rfl, ⟨rfl, trivial⟩⟩⟩ ⟨rfl, trivial⟩ (fun x hx => ?_)
    obtain ⟨hkl, hfb⟩ := hx
    refine W_seq ?_
    refine W_seq ?_
    refine W.pre (K' := [(0, _), (4, _), (5, _)]) (L' := [(0, _)]) ?_ ⟨rfl, ⟨rfl, ⟨rfl, trivial⟩⟩⟩ ⟨rfl, trivial⟩
    refine W_regL (WL_pure rfl rfl (by decide) (Pu_move rfl rfl) (WL_pure rfl rfl (by decide) (Pu_move rfl rfl) (WL_pure rfl rfl (by decide) (Pu_len (r := 0) rfl Tryd.runUnderlying30 rfl rfl hF) (WL_pure rfl rfl (by decide) (Pu_bin rfl rfl rfl (run_lss _ _ _ _ _ _)) (WL_nil (X_then ?_))))))
    refine W_cond rfl (fun hc12 => ?_) (fun hc12 => ?_)
    ·
      have hlt : x < ls.length := by have := of_decide_eq_true hc12; omega
      have hmm := jn_mem (getD_mem hlt)
      have hj1 := jn_le ls (x + 1)
      rw [jn_succ hlt] at hj1
      simp only [List.length_append, List.length_cons, List.length_nil] at hj1
      refine W_skip (X_then ?_)
      refine W_seq ?_
      refine W_block ?_
      refine W_seq ?_
      refine W_seq ?_
      refine W.pre (K' := [(0, _), (4, _), (5, _), (12, _)]) (L' := [(0, _)]) ?_ ⟨rfl, ⟨rfl, ⟨rfl, ⟨rfl, trivial⟩⟩⟩⟩ ⟨rfl, trivial⟩
      refine W_regL (WL_pure rfl rfl (by decide) (Pu_move rfl rfl) (WL_pure rfl rfl (by decide) (Pu_move rfl rfl) (WL_pure rfl rfl (by decide) (Pu_idxS1 (r := 0) rfl Tryd.runUnderlying30 Tryd.sizeOf9 rfl rfl rfl hF (by omega)) (WL_pure rfl rfl (by decide) (Pu_loadS (r := 0) rfl Tryd.isAgg9 rfl rfl hF (ss_at hlt)) (WL_cons rfl rfl (by decide) (OpT_call 200 [0] [] rfl Tryd.call12 rfl rfl rfl (by decide) (by decide) (check_rspec (ls.getD x []) (by omega) _) (fun v19 Ps19 hR19 => ?_)))))))
      obtain ⟨rfl, rfl⟩ := hR19
      refine (WL_pure rfl rfl (by decide) (Pu_bin rfl rfl rfl (run_neq _ _ _ _ _ _)) (WL_nil (X_then ?_)))
      refine W_cond rfl (fun hc20 => ?_) (fun hc20 => ?_)
      ·
        have hbad : ¬ (checkN (ls.getD x []) : Int) = 0 := by simpa using hc20
        refine W_seq ?_
        refine W.pre (K' := [(0, _), (4, _), (5, _), (12, _), (20, _)]) (L' := [(0, _)]) ?_ ⟨rfl, ⟨rfl, ⟨rfl, ⟨rfl, ⟨rfl, trivial⟩⟩⟩⟩⟩ ⟨rfl, trivial⟩
        refine W_regL (WL_pure rfl rfl (by decide) (Pu_move rfl rfl) (WL_pure rfl rfl (by decide) (Pu_move rfl rfl) (WL_pure rfl rfl (by decide) (Pu_idxS1 (r := 0) rfl Tryd.runUnderlying30 Tryd.sizeOf9 rfl rfl rfl hF (by omega)) (WL_pure rfl rfl (by decide) (Pu_loadS (r := 0) rfl Tryd.isAgg9 rfl rfl hF (ss_at hlt)) (WL_cons rfl rfl (by decide) (OpT_call 300 [0] [] rfl Tryd.call12 rfl rfl rfl (by decide) (by decide) (check_rspec (ls.getD x []) (by omega) _) (fun v25 Ps25 hR25 => ?_)))))))
        obtain ⟨rfl, rfl⟩ := hR25
        refine (WL_pure rfl rfl (by decide) (Pu_assign rfl rfl) (WL_pure rfl rfl (by decide) (Pu_assign rfl rfl) (WL_nil (X_then ?_))))
        refine W_ret (X_then_ret (X_block_ret (X_then_ret (X_then_ret (X_block_ret (X_then_ret ?_))))))
        have hs : joinN ls = ([], checkN (ls.getD x [])) := by rw [joinN_eq, show allN ls = checkN (ls.getD x []) by unfold allN; rw [if_neg (by omega), ← hfb, firstBad_bad hlt hbad], if_pos (by omega)]
        exact X_ret [] (Ps := []) (res2 Tryd.results15 rfl rfl) rfl (by decide) ⟨by rw [hs] <;> rfl, rfl⟩
      ·
        have hgood : (checkN (ls.getD x []) : Int) = 0 := by simpa using hc20
        refine W_skip (X_then ?_)
        refine W.pre (K' := [(0, _), (4, _), (5, _), (12, _), (20, _)]) (L' := [(0, _)]) ?_ ⟨rfl, ⟨rfl, ⟨rfl, ⟨rfl, ⟨rfl, trivial⟩⟩⟩⟩⟩ ⟨rfl, trivial⟩
        refine W_regL (WL_pure rfl rfl (by decide) (Pu_move rfl rfl) (WL_pure rfl rfl (by decide) (Pu_bin rfl rfl rfl (run_addL _ _ _ _ _ (by simp only [List.length_cons, List.length_nil]; omega))) (WL_pure rfl rfl (by decide) (Pu_move rfl rfl) (WL_pure rfl rfl (by decide) (Pu_move rfl rfl) (WL_pure rfl rfl (by decide) (Pu_idxS1 (r := 0) rfl Tryd.runUnderlying30 Tryd.sizeOf9 rfl rfl rfl hF (by omega)) (WL_pure rfl rfl (by decide) (Pu_loadS (r := 0) rfl Tryd.isAgg9 rfl rfl hF (ss_at hlt)) (WL_pure rfl rfl (by decide) (Pu_bin rfl rfl rfl (run_addL _ _ _ _ _ (by simp only [List.length_append, List.length_cons, List.length_nil, Int.toNat_natCast]; omega))) (WL_pure rfl rfl (by decide) (Pu_assign rfl rfl) (WL_nil (X_block (X_then ?_)))))))))))
        refine W.pre (K' := [(0, _), (4, _), (5, _), (12, _), (20, _)]) (L' := [(0, _)]) ?_ ⟨rfl, ⟨rfl, ⟨rfl, ⟨rfl, ⟨rfl, trivial⟩⟩⟩⟩⟩ ⟨rfl, trivial⟩
        refine W_regL (WL_pure rfl rfl (by decide) (Pu_move rfl rfl) (WL_pure rfl rfl (by decide) (Pu_bin rfl rfl rfl (run_add _ _ _ _ _ (by omega))) (WL_pure rfl rfl (by decide) (Pu_assign rfl rfl) (WL_nil ?_))))
        exact X_round (x + 1) ⟨hlt, by rw [← hfb, firstBad_good hlt hgood]⟩ (by omega) ⟨rfl, congrArg some (by rw [jn_succ hlt] <;> rfl), rfl, trivial⟩ ⟨rfl, trivial⟩
    ·
      have hge : ls.length ≤ x := by have := of_decide_eq_false hc12; omega
      rw [List.take_of_length_le hge]
      refine W_exit (X_then_exit (X_then_exit (X_block_exit (X_then ?_))))
      refine W_seq ?_
      refine W_seq ?_
      refine W.pre (K' := [(0, _), (4, _), (5, _), (12, _)]) (L' := [(0, _)]) ?_ ⟨rfl, ⟨rfl, ⟨rfl, ⟨rfl, trivial⟩⟩⟩⟩ ⟨rfl, trivial⟩
      refine W_regL (WL_pure rfl rfl (by decide) (Pu_move rfl rfl) (WL_pure rfl rfl (by decide) (Pu_bin rfl rfl rfl (run_strEq _ _ _ _ _)) (WL_nil (X_then ?_))))
      refine W_cond rfl (fun hc34 => ?_) (fun hc34 => ?_)
      ·
        have hj : jn ls = [] := by simpa using hc34
        refine W_seq ?_
        refine W.pre (K' := [(0, _), (4, _), (5, _), (12, _), (34, _)]) (L' := [(0, _)]) ?_ ⟨rfl, ⟨rfl, ⟨rfl, ⟨rfl, ⟨rfl, trivial⟩⟩⟩⟩⟩ ⟨rfl, trivial⟩
        refine W_regL (WL_pure rfl rfl (by decide) (Pu_assign rfl rfl) (WL_pure rfl rfl (by decide) (Pu_assign rfl rfl) (WL_nil (X_then ?_))))
        refine W_ret (X_then_ret ?_)
        have hs : joinN ls = ([47], 0) := by rw [joinN_eq, show allN ls = 0 by unfold allN; rw [if_neg (by omega), ← hfb, firstBad_end hge], if_neg (by omega), if_pos hj]
        exact X_ret [] (Ps := []) (res2 Tryd.results15 rfl rfl) rfl (by decide) ⟨by rw [hs] <;> rfl, rfl⟩
      ·
        have hj : ¬ jn ls = [] := by simpa using hc34
        refine W_skip (X_then ?_)
        refine W_seq ?_
        refine W.pre (K' := [(0, _), (4, _), (5, _), (12, _), (34, _)]) (L' := [(0, _)]) ?_ ⟨rfl, ⟨rfl, ⟨rfl, ⟨rfl, ⟨rfl, trivial⟩⟩⟩⟩⟩ ⟨rfl, trivial⟩
        refine W_regL (WL_pure rfl rfl (by decide) (Pu_move rfl rfl) (WL_pure rfl rfl (by decide) (Pu_assign rfl rfl) (WL_pure rfl rfl (by decide) (Pu_assign rfl rfl) (WL_nil (X_then ?_)))))
        refine W_ret ?_
        have hs : joinN ls = (jn ls, 0) := by rw [joinN_eq, show allN ls = 0 by unfold allN; rw [if_neg (by omega), ← hfb, firstBad_end hge], if_neg (by omega), if_neg hj]
        exact X_ret [] (Ps := []) (res2 Tryd.results15 rfl rfl) rfl (by decide) ⟨by rw [hs] <;> rfl, rfl⟩
end Go.Proofs.YtjiafaiklmbbeaaDoor
