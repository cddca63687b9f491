/- Caches: the law of use. -/
import Derived.Test.YtamhhkjddmjanaaCacheD
import Derived.Test.YtamhhkjddmjanaaCache3
import Derived.Test.YtamhhkjddmjanaaOpen2
namespace Go.Proofs.Ytamhhkjddmjanaa
open Go.RowKit
set_option linter.unusedVariables false
set_option linter.unusedSimpArgs false

theorem is_one (l : List Int) : ∀ u ∈ is l, u.oneCell' = true := by
  intro u hu
  simp only [is, List.mem_map] at hu
  obtain ⟨x, _, rfl⟩ := hu
  rfl
theorem rowN_of {e : TypeId} {v : Value} {n : Nat} {xs : List Value} (l : List Int) (hn : n = l.length) (hx : xs = is l) : rowP e 1 v n xs = rowP e 1 v l.length (is l) := by subst hn; subst hx; rfl
theorem cacheUse_law (Wo : World) (n0 : Int) (vu : Value) (uses : List Int) (hru : Rd Wo 1 vu uses.length (is uses)) :
    CallsS Try.prog 6 #[.int .i64 n0, vu] (orig Wo) [] (fun v Ps => v = .bool true) := by
  refine callsS_enter Try.func6 rfl Try.ntmps6 (by simp) (fun E => ?_)
  refine W_seq ?_
  refine W.pre (K' := [(0, _), (1, _)]) (L' := [(0, _)]) ?_ ⟨rfl, ⟨rfl, trivial⟩⟩ ⟨rfl, trivial⟩
  refine W_regL (WL_pure rfl rfl (by decide) (Pu_assign rfl rfl) (WL_nil (X_then ?_)))
  refine W_seq ?_
  refine W_seq ?_
  refine W.pre (K' := [(0, _), (1, _), (4, _)]) (L' := [(0, _)]) ?_ ⟨rfl, ⟨rfl, ⟨rfl, trivial⟩⟩⟩ ⟨rfl, trivial⟩
  refine W_regL (WL_cons rfl rfl (by decide) (OpT_call 200 [0] [] rfl Try.call8 rfl rfl rfl (by decide) (by decide) (known_spec _) (fun v15 Ps15 hR15 => ?_)))
  obtain ⟨rfl, rfl⟩ := hR15
  refine (WL_pure rfl rfl (by decide) (Pu_un rfl rfl (run_not _)) (WL_nil (X_then ?_)))
  refine W_false rfl (rfl) ?_
  refine W_skip (X_then ?_)
  refine W_seq ?_
  refine W.pre (K' := [(0, _), (1, _), (4, _), (16, _)]) (L' := [(0, _)]) ?_ ⟨rfl, ⟨rfl, ⟨rfl, ⟨rfl, trivial⟩⟩⟩⟩ ⟨rfl, trivial⟩
  refine W_regL (WL_pure rfl rfl (by decide) (Pu_move rfl rfl) (WL_cons rfl rfl (by decide) (OpT_call 300 [0] [] rfl Try.call9 rfl rfl rfl (by decide) (by decide) (within_spec n0 8 (by omega) (by omega) _) (fun v18 Ps18 hR18 => ?_))))
  obtain ⟨rfl, rfl⟩ := hR18
  obtain ⟨m, hm, hm2⟩ : ∃ m : Nat, n0 % 8 = (m : Int) ∧ m < 8 := ⟨(n0 % 8).toNat, by omega, by omega⟩
  rw [hm]
  refine (WL_pure rfl rfl (by decide) (Pu_bin rfl rfl rfl (run_add _ _ _ _ _ (by omega))) (WL_pure rfl rfl (by decide) (Pu_assign rfl rfl) (WL_nil (X_then ?_))))
  refine W_seq ?_
  refine W.pre (K' := [(0, _), (1, _), (4, _), (16, _)]) (L' := [(0, _)]) ?_ ⟨rfl, ⟨rfl, ⟨rfl, ⟨rfl, trivial⟩⟩⟩⟩ ⟨rfl, trivial⟩
  rw [show (1 : Int) + (m : Int) = ((m + 1 : Nat) : Int) by omega]
  refine W_regL (WL_pure rfl rfl (by decide) (Pu_move rfl rfl) (WL_pure rfl rfl (by decide) (Pu_bin rfl rfl rfl (run_mul _ _ _ _ _ (by omega))) (WL_cons rfl rfl (by decide) (OpT_call 400 [0] [] rfl Try.call10 (evL_cons (evK_eq rfl (int_eq (show (10 : Int) * ((m + 1 : Nat) : Int) = ((10 * (m + 1) : Nat) : Int) by omega))) evL_nil) rfl rfl (by decide) (by decide) (new_good (10 * (m + 1)) (by omega) _) (fun v23 Ps23 hR23 => ?_)))))
  obtain ⟨gc, rfl, rfl⟩ := hR23
  refine (WL_pure rfl rfl (by decide) (Pu_move rfl rfl) (WL_pure rfl rfl (by decide) (Pu_extract rfl rfl rfl) (WL_pure rfl rfl (by decide) (Pu_extract rfl rfl rfl) (WL_pure rfl rfl (by decide) (Pu_assign rfl rfl) (WL_pure rfl rfl (by decide) (Pu_assign rfl rfl) (WL_nil (X_then ?_)))))))
  refine W_seq ?_
  refine W.pre (K' := [(0, _), (1, _), (4, _), (5, _), (16, _)]) (L' := [(0, _), (400, _)]) ?_ ⟨rfl, ⟨rfl, ⟨rfl, ⟨rfl, ⟨rfl, trivial⟩⟩⟩⟩⟩ ⟨rfl, ⟨rfl, trivial⟩⟩
  refine W_nilRow 2 3 1 ?_
  refine W_regL (WL_pure rfl rfl (by decide) (Pu_assign rfl rfl) (WL_nil (X_then ?_)))
  refine W_seq ?_
  refine W_seq ?_
  refine W.pre (K' := [(0, _), (1, _), (4, _), (5, _), (7, _), (16, _)]) (L' := [(0, _), (2, _), (400, _)]) ?_ ⟨rfl, ⟨rfl, ⟨rfl, ⟨rfl, ⟨rfl, ⟨rfl, trivial⟩⟩⟩⟩⟩⟩ ⟨rfl, ⟨rfl, ⟨rfl, trivial⟩⟩⟩
  refine W_regL (WL_pure rfl rfl (by decide) (Pu_assign rfl rfl) (WL_nil (X_then ?_)))
  refine W_block ?_
  refine W_loop (α := Nat × Value × List Int) (fun q => [(0, .int .i64 ((m + 1 : Nat) : Int)), (1, vu), (5, .pointer (some ⟨gc, 0, none⟩)), (7, q.2.1), (8, .int .i64 (q.1 : Int))]) (fun q => [(0, orig Wo), (400, cacheP gc (10 * (m + 1)) (useL q.2.2)), (2, rowP 3 1 q.2.1 q.2.2.length (is q.2.2))]) (fun q => Us (m + 1) q.2.2) (fun q => 60 - q.1) ((0, .slice none 0 0, [])) ⟨List.nodup_nil, fun k hk => by simp at hk, Nat.zero_le _⟩ ⟨rfl, ⟨rfl, ⟨rfl, ⟨rfl, ⟨rfl, trivial⟩⟩⟩⟩⟩ ⟨rfl, ⟨rfl, ⟨rfl, trivial⟩⟩⟩ (fun x hx => ?_)
  obtain ⟨i, v7, last⟩ := x
  have hu : Us (m + 1) last := hx
  have hlen := hu.len
  refine W_seq ?_
  refine W_seq ?_
  refine W.pre (K' := [(0, _), (1, _), (5, _), (7, _), (8, _)]) (L' := [(0, _), (2, _), (400, _)]) ?_ ⟨rfl, ⟨rfl, ⟨rfl, ⟨rfl, ⟨rfl, trivial⟩⟩⟩⟩⟩ ⟨rfl, ⟨rfl, ⟨rfl, trivial⟩⟩⟩
  refine W_regL (WL_pure rfl rfl (by decide) (Pu_move rfl rfl) (WL_pure rfl rfl (by decide) (Pu_move rfl rfl) (WL_pure rfl rfl (by decide) (Pu_len (r := 0) rfl Try.runUnderlying40 rfl rfl (fun h hp => Rd.orig hru h hp)) (WL_pure rfl rfl (by decide) (Pu_bin rfl rfl rfl (run_lss _ _ _ _ _ _)) (WL_pure rfl rfl (by decide) (Pu_move rfl rfl) (WL_guardP rfl rfl rfl rfl (by decide) (fun hb => (Pu_move rfl rfl)) (WL_guardP rfl rfl rfl rfl (by decide) (fun hb => (Pu_bin rfl (ev_gv rfl hb) rfl (run_lss _ _ _ _ _ _))) (WL_pure rfl rfl (by decide) (Pu_and rfl rfl rfl) (WL_nil (X_then ?_))))))))))
  refine W_cond rfl (fun hc33 => ?_) (fun hc33 => ?_)
  ·
    have hi : i < uses.length ∧ i < 60 := by simp at hc33; omega
    obtain ⟨hi1, hi2⟩ := hi
    refine W_skip (X_then ?_)
    refine W_seq ?_
    refine W_block ?_
    refine W_seq ?_
    refine W.pre (K' := [(0, _), (1, _), (5, _), (7, _), (8, _), (33, _)]) (L' := [(0, _), (2, _), (400, _)]) ?_ ⟨rfl, ⟨rfl, ⟨rfl, ⟨rfl, ⟨rfl, ⟨rfl, trivial⟩⟩⟩⟩⟩⟩ ⟨rfl, ⟨rfl, ⟨rfl, trivial⟩⟩⟩
    refine W_regL (WL_pure rfl rfl (by decide) (Pu_move rfl rfl) (WL_pure rfl rfl (by decide) (Pu_move rfl rfl) (WL_pure rfl rfl (by decide) (Pu_idxS1 (r := 0) rfl Try.runUnderlying40 Try.sizeOf3 rfl rfl rfl (fun h hp => Rd.orig hru h hp) (by omega)) (WL_pure rfl rfl (by decide) (Pu_loadS (r := 0) rfl Try.isAgg3 rfl rfl (fun h hp => Rd.orig hru h hp) (is_at (k := i) hi1)) (WL_cons rfl rfl (by decide) (OpT_call 500 [0, 2, 400] [] rfl Try.call9 rfl rfl rfl (by decide) (by decide) (within_spec (uses.getD i 0) 12 (by omega) (by omega) _) (fun v40 Ps40 hR40 => ?_)))))))
    obtain ⟨rfl, rfl⟩ := hR40
    obtain ⟨k, hkd⟩ : ∃ k, uses.getD i 0 % 12 = k := ⟨_, rfl⟩
    have hk : 0 ≤ k ∧ k < 12 := by omega
    rw [hkd]
    refine (WL_pure rfl rfl (by decide) (Pu_assign rfl rfl) (WL_nil (X_then ?_)))
    refine W_seq ?_
    refine W.pre (K' := [(0, _), (1, _), (5, _), (7, _), (8, _), (9, _), (33, _)]) (L' := [(0, _), (2, _), (400, _)]) ?_ ⟨rfl, ⟨rfl, ⟨rfl, ⟨rfl, ⟨rfl, ⟨rfl, ⟨rfl, trivial⟩⟩⟩⟩⟩⟩⟩ ⟨rfl, ⟨rfl, ⟨rfl, trivial⟩⟩⟩
    refine W_nilRow 3 3 1 ?_
    refine W_regL (WL_pure rfl rfl (by decide) (Pu_assign rfl rfl) (WL_nil (X_then ?_)))
    refine W_seq ?_
    refine W.pre (K' := [(0, _), (1, _), (5, _), (7, _), (8, _), (9, _), (10, _), (33, _)]) (L' := [(0, _), (2, _), (3, _), (400, _)]) ?_ ⟨rfl, ⟨rfl, ⟨rfl, ⟨rfl, ⟨rfl, ⟨rfl, ⟨rfl, ⟨rfl, trivial⟩⟩⟩⟩⟩⟩⟩⟩ ⟨rfl, ⟨rfl, ⟨rfl, ⟨rfl, trivial⟩⟩⟩⟩
    refine W_regL (WL_pure rfl rfl (by decide) (Pu_assign rfl rfl) (WL_nil (X_then ?_)))
    refine W_seq ?_
    refine W_seq ?_
    refine W.pre (K' := [(0, _), (1, _), (5, _), (7, _), (8, _), (9, _), (10, _), (11, _), (33, _)]) (L' := [(0, _), (2, _), (3, _), (400, _)]) ?_ ⟨rfl, ⟨rfl, ⟨rfl, ⟨rfl, ⟨rfl, ⟨rfl, ⟨rfl, ⟨rfl, ⟨rfl, trivial⟩⟩⟩⟩⟩⟩⟩⟩⟩ ⟨rfl, ⟨rfl, ⟨rfl, ⟨rfl, trivial⟩⟩⟩⟩
    refine W_regL (WL_pure rfl rfl (by decide) (Pu_assign rfl rfl) (WL_nil (X_then ?_)))
    refine W_block ?_
    refine W_loop (α := Nat × Value) (fun p => [(0, .int .i64 ((m + 1 : Nat) : Int)), (1, vu), (5, .pointer (some ⟨gc, 0, none⟩)), (7, v7), (8, .int .i64 (i : Int)), (9, .int .i64 k), (10, p.2), (11, .bool (hadTo last k p.1)), (12, .int .i64 (p.1 : Int))]) (fun p => [(0, orig Wo), (400, cacheP gc (10 * (m + 1)) (useL last)), (2, rowP 3 1 v7 last.length (is last)), (3, rowP 3 1 p.2 (restTo last k p.1).length (is (restTo last k p.1)))]) (fun p => p.1 ≤ last.length) (fun p => last.length - p.1) ((0, .slice none 0 0)) (Nat.zero_le _) ⟨rfl, ⟨rfl, ⟨rfl, ⟨rfl, ⟨rfl, ⟨rfl, ⟨rfl, ⟨rfl, ⟨rfl, trivial⟩⟩⟩⟩⟩⟩⟩⟩⟩ ⟨rfl, ⟨rfl, ⟨rfl, ⟨rfl, trivial⟩⟩⟩⟩ (fun y hy => ?_)
    obtain ⟨j, v10⟩ := y
    have hjl : j ≤ last.length := hy
    have hrl := restTo_len last k j
    refine W_seq ?_
    refine W_seq ?_
    refine W.pre (K' := [(0, _), (1, _), (5, _), (7, _), (8, _), (9, _), (10, _), (11, _), (12, _)]) (L' := [(0, _), (2, _), (3, _), (400, _)]) ?_ ⟨rfl, ⟨rfl, ⟨rfl, ⟨rfl, ⟨rfl, ⟨rfl, ⟨rfl, ⟨rfl, ⟨rfl, trivial⟩⟩⟩⟩⟩⟩⟩⟩⟩ ⟨rfl, ⟨rfl, ⟨rfl, ⟨rfl, trivial⟩⟩⟩⟩
    refine W_regL (WL_pure rfl rfl (by decide) (Pu_move rfl rfl) (WL_pure rfl rfl (by decide) (Pu_move rfl rfl) (WL_pure rfl rfl (by decide) (Pu_len (r := 2) rfl Try.runUnderlying40 rfl rfl (fun _ h => rowP_rd h)) (WL_pure rfl rfl (by decide) (Pu_bin rfl rfl rfl (run_lss _ _ _ _ _ _)) (WL_nil (X_then ?_))))))
    refine W_cond rfl (fun hc44 => ?_) (fun hc44 => ?_)
    ·
      have hj : j < last.length := by have := of_decide_eq_true hc44; omega
      refine W_skip (X_then ?_)
      refine W_seq ?_
      refine W_block ?_
      refine W_seq ?_
      refine W.pre (K' := [(0, _), (1, _), (5, _), (7, _), (8, _), (9, _), (10, _), (11, _), (12, _), (44, _)]) (L' := [(0, _), (2, _), (3, _), (400, _)]) ?_ ⟨rfl, ⟨rfl, ⟨rfl, ⟨rfl, ⟨rfl, ⟨rfl, ⟨rfl, ⟨rfl, ⟨rfl, ⟨rfl, trivial⟩⟩⟩⟩⟩⟩⟩⟩⟩⟩ ⟨rfl, ⟨rfl, ⟨rfl, ⟨rfl, trivial⟩⟩⟩⟩
      refine W_regL (WL_pure rfl rfl (by decide) (Pu_move rfl rfl) (WL_pure rfl rfl (by decide) (Pu_move rfl rfl) (WL_pure rfl rfl (by decide) (Pu_idxS1 (r := 2) rfl Try.runUnderlying40 Try.sizeOf3 rfl rfl rfl (fun _ h => rowP_rd h) (by omega)) (WL_pure rfl rfl (by decide) (Pu_loadS (r := 2) rfl Try.isAgg3 rfl rfl (fun _ h => rowP_rd h) (is_at (k := j) hj)) (WL_pure rfl rfl (by decide) (Pu_move rfl rfl) (WL_pure rfl rfl (by decide) (Pu_bin rfl rfl rfl (run_eql _ _ _ _ _ _)) (WL_nil (X_then ?_))))))))
      refine W_cond rfl (fun hc52 => ?_) (fun hc52 => ?_)
      ·
        have he := of_decide_eq_true hc52
        obtain ⟨hr1, hr2⟩ := restTo_yes hj he
        refine W.pre (K' := [(0, _), (1, _), (5, _), (7, _), (8, _), (9, _), (10, _), (11, _), (12, _), (44, _), (52, _)]) (L' := [(0, _), (2, _), (3, _), (400, _)]) ?_ ⟨rfl, ⟨rfl, ⟨rfl, ⟨rfl, ⟨rfl, ⟨rfl, ⟨rfl, ⟨rfl, ⟨rfl, ⟨rfl, ⟨rfl, trivial⟩⟩⟩⟩⟩⟩⟩⟩⟩⟩⟩ ⟨rfl, ⟨rfl, ⟨rfl, ⟨rfl, trivial⟩⟩⟩⟩
        refine W_regL (WL_pure rfl rfl (by decide) (Pu_assign rfl rfl) (WL_nil (X_block (X_then ?_))))
        refine W.pre (K' := [(0, _), (1, _), (5, _), (7, _), (8, _), (9, _), (10, _), (11, _), (12, _), (44, _), (52, _)]) (L' := [(0, _), (2, _), (3, _), (400, _)]) ?_ ⟨rfl, ⟨rfl, ⟨rfl, ⟨rfl, ⟨rfl, ⟨rfl, ⟨rfl, ⟨rfl, ⟨rfl, ⟨rfl, ⟨rfl, trivial⟩⟩⟩⟩⟩⟩⟩⟩⟩⟩⟩ ⟨rfl, ⟨rfl, ⟨rfl, ⟨rfl, trivial⟩⟩⟩⟩
        refine W_regL (WL_pure rfl rfl (by decide) (Pu_move rfl rfl) (WL_pure rfl rfl (by decide) (Pu_bin rfl rfl rfl (run_add _ _ _ _ _ (by omega))) (WL_pure rfl rfl (by decide) (Pu_assign rfl rfl) (WL_nil ?_))))
        exact X_round (j + 1, v10) (by show j + 1 ≤ _; omega) (by show _ - (j + 1) < _ - j; omega) ⟨rfl, rfl, rfl, rfl, rfl, rfl, rfl, lookV_eq rfl (by rw [hr2]), rfl, trivial⟩ ⟨rfl, rfl, rfl, look_eq rfl (by rw [hr1]), trivial⟩
      ·
        have he := of_decide_eq_false hc52
        obtain ⟨hr1, hr2⟩ := restTo_no hj he
        refine W.pre (K' := [(0, _), (1, _), (5, _), (7, _), (8, _), (9, _), (10, _), (11, _), (12, _), (44, _), (52, _)]) (L' := [(0, _), (2, _), (3, _), (400, _)]) ?_ ⟨rfl, ⟨rfl, ⟨rfl, ⟨rfl, ⟨rfl, ⟨rfl, ⟨rfl, ⟨rfl, ⟨rfl, ⟨rfl, ⟨rfl, trivial⟩⟩⟩⟩⟩⟩⟩⟩⟩⟩⟩ ⟨rfl, ⟨rfl, ⟨rfl, ⟨rfl, trivial⟩⟩⟩⟩
        refine W_regL (WL_pure rfl rfl (by decide) (Pu_move rfl rfl) (WL_pure rfl rfl (by decide) (Pu_move rfl rfl) (WL_pure rfl rfl (by decide) (Pu_move rfl rfl) (WL_pure rfl rfl (by decide) (Pu_idxS1 (r := 2) rfl Try.runUnderlying40 Try.sizeOf3 rfl rfl rfl (fun _ h => rowP_rd h) (by omega)) (WL_pure rfl rfl (by decide) (Pu_loadS (r := 2) rfl Try.isAgg3 rfl rfl (fun _ h => rowP_rd h) (is_at (k := j) hj)) (WL_cons rfl rfl (by decide) (OpT_buildOnes (r := 501) (is [last.getD j 0]) rfl rfl Try.runUnderlying40 Try.sizeOf3 Try.zeroValue3 rfl rfl (by decide) rfl (by simp [is, Value.cells]) (fun v58 => (WL_cons rfl rfl (by decide) (OpT_append (r := 3) (r2 := 501) rfl Try.underlying40 TI.hi3 TI.hz3 TI.hs3 TI.hby3 TI.hzs3 (by decide) rfl rfl rfl rfl (fun _ h => rowP_rd h) (is_one _) (show (restTo last k j).length + 1 ≤ maxLen by unfold maxLen; omega) (show ((restTo last k j).length + 1) * 8 ≤ 140737488355328 by omega) (fun v59 => ?_)))))))))))
        refine (WL_pure rfl rfl (by decide) (Pu_assign rfl rfl) (WL_nil (X_block (X_then ?_))))
        refine W.pre (K' := [(0, _), (1, _), (5, _), (7, _), (8, _), (9, _), (10, _), (11, _), (12, _), (44, _), (52, _)]) (L' := [(0, _), (2, _), (3, _), (400, _), (501, _)]) ?_ ⟨rfl, ⟨rfl, ⟨rfl, ⟨rfl, ⟨rfl, ⟨rfl, ⟨rfl, ⟨rfl, ⟨rfl, ⟨rfl, ⟨rfl, trivial⟩⟩⟩⟩⟩⟩⟩⟩⟩⟩⟩ ⟨rfl, ⟨rfl, ⟨rfl, ⟨rfl, ⟨rfl, trivial⟩⟩⟩⟩⟩
        refine W_regL (WL_pure rfl rfl (by decide) (Pu_move rfl rfl) (WL_pure rfl rfl (by decide) (Pu_bin rfl rfl rfl (run_add _ _ _ _ _ (by omega))) (WL_pure rfl rfl (by decide) (Pu_assign rfl rfl) (WL_nil ?_))))
        exact X_round (j + 1, v59) (by show j + 1 ≤ _; omega) (by show _ - (j + 1) < _ - j; omega) ⟨rfl, rfl, rfl, rfl, rfl, rfl, rfl, lookV_eq rfl (by rw [hr2]), rfl, trivial⟩ ⟨rfl, rfl, rfl, look_eq rfl (by rw [hr1]; simp [is]), trivial⟩
    ·
      obtain rfl : j = last.length := by have := of_decide_eq_false hc44; omega
      obtain ⟨hra, hha⟩ := restTo_all last k
      rw [hra, hha]
      refine W_exit (X_then_exit (X_then_exit (X_block_exit (X_then ?_))))
      refine W_seq ?_
      refine W_seq ?_
      refine W.pre (K' := [(0, _), (1, _), (5, _), (7, _), (8, _), (9, _), (10, _), (11, _), (12, _), (44, _)]) (L' := [(0, _), (2, _), (3, _), (400, _)]) ?_ ⟨rfl, ⟨rfl, ⟨rfl, ⟨rfl, ⟨rfl, ⟨rfl, ⟨rfl, ⟨rfl, ⟨rfl, ⟨rfl, trivial⟩⟩⟩⟩⟩⟩⟩⟩⟩⟩ ⟨rfl, ⟨rfl, ⟨rfl, ⟨rfl, trivial⟩⟩⟩⟩
      refine W_regL (WL_pure rfl rfl (by decide) (Pu_move rfl rfl) (WL_pure rfl rfl (by decide) (Pu_move rfl rfl) (WL_cons rfl rfl (by decide) (OpT_call 600 [0, 2, 3, 400] [] rfl Try.call12 rfl rfl rfl (by decide) (by decide) (key_spec k _) (fun v63 Ps63 hR63 => ?_)))))
      obtain ⟨rfl, rfl⟩ := hR63
      refine (WL_cons rfl rfl (by decide) (OpT_call 700 [0, 2, 3] [400] rfl Try.call17 rfl rfl rfl (by decide) (by decide) (get_spec gc (10 * (m + 1)) (useL last) (keyB k) (keyB_length _) _) (fun v64 Ps64 hR64 => ?_)))
      obtain ⟨v64, rfl, rfl⟩ := hR64
      rw [use_lookup hu hk]
      refine (WL_pure rfl rfl (by decide) (Pu_move rfl rfl) (WL_pure rfl rfl (by decide) (Pu_extract rfl rfl rfl) (WL_pure rfl rfl (by decide) (Pu_extract rfl rfl rfl) (WL_pure rfl rfl (by decide) (Pu_assign rfl rfl) (WL_pure rfl rfl (by decide) (Pu_assign rfl rfl) (WL_nil (X_then ?_)))))))
      refine W_seq ?_
      refine W.pre (K' := [(0, _), (1, _), (5, _), (7, _), (8, _), (9, _), (10, _), (11, _), (12, _), (14, _), (44, _)]) (L' := [(0, _), (2, _), (3, _), (700, _), (701, _)]) ?_ ⟨rfl, ⟨rfl, ⟨rfl, ⟨rfl, ⟨rfl, ⟨rfl, ⟨rfl, ⟨rfl, ⟨rfl, ⟨rfl, ⟨rfl, trivial⟩⟩⟩⟩⟩⟩⟩⟩⟩⟩⟩ ⟨rfl, ⟨rfl, ⟨rfl, ⟨rfl, ⟨rfl, trivial⟩⟩⟩⟩⟩
      refine W_regL (WL_pure rfl rfl (by decide) (Pu_move rfl rfl) (WL_pure rfl rfl (by decide) (Pu_move rfl rfl) (WL_pure rfl rfl (by decide) (Pu_bin rfl rfl rfl (run_neb _ _ _ Try.underlying4 _ _)) (WL_nil (X_then ?_)))))
      refine W_false rfl (by simp) ?_
      refine W_skip (X_then ?_)
      refine W_seq ?_
      refine W_seq ?_
      refine W.pre (K' := [(0, _), (1, _), (5, _), (7, _), (8, _), (9, _), (10, _), (11, _), (12, _), (14, _), (44, _), (69, _)]) (L' := [(0, _), (2, _), (3, _), (700, _), (701, _)]) ?_ ⟨rfl, ⟨rfl, ⟨rfl, ⟨rfl, ⟨rfl, ⟨rfl, ⟨rfl, ⟨rfl, ⟨rfl, ⟨rfl, ⟨rfl, ⟨rfl, trivial⟩⟩⟩⟩⟩⟩⟩⟩⟩⟩⟩⟩ ⟨rfl, ⟨rfl, ⟨rfl, ⟨rfl, ⟨rfl, trivial⟩⟩⟩⟩⟩
      rcases Bool.eq_false_or_eq_true (!(had last k)) with hsp21 | hsp21
      ·
        have hh : had last k = false := by simpa using hsp21
        obtain ⟨hpC, hpB⟩ := use_put (n := m + 1) (by omega) hu hk hh
        refine W_draw (N := 10) (by kernel_rfl) rfl [(0, _)] ⟨rfl, trivial⟩ ?_
        refine (AH_take 0 rfl (by kernel_rfl) (by kernel_rfl) (by kernel_rfl) rfl rfl (by decide) (Pu_move rfl rfl) (AH_take 1 rfl (by kernel_rfl) (by kernel_rfl) (by kernel_rfl) rfl rfl (by decide) (Pu_un rfl rfl (run_not _)) (AH_take 2 rfl (by kernel_rfl) (by kernel_rfl) (by kernel_rfl) rfl rfl (by decide) (Pu_move rfl rfl) (AH_takeT 3 rfl (by kernel_rfl) (by kernel_rfl) (by kernel_rfl) rfl rfl rfl (by rw [hsp21]; rfl) rfl (by decide) (Pu_move rfl rfl) (AH_takeT 4 rfl (by kernel_rfl) (by kernel_rfl) (by kernel_rfl) rfl rfl rfl (by rw [hsp21]; rfl) rfl (by decide) (Pu_move rfl rfl) (AH_ready [5, 6] (by kernel_rfl) (by decide) ?_))))))
        refine AHs_gT rfl rfl rfl rfl (by rw [hsp21]; rfl) rfl (by decide) (OpT_call 800 [0, 2, 3, 700, 701] [] rfl Try.call12 rfl rfl rfl (by decide) (by decide) (key_spec k _) (fun v75 Ps75 hR75 => ?_)) ?_
        ·
          obtain ⟨rfl, rfl⟩ := hR75
          refine ⟨⟨rfl, trivial⟩, ?_⟩
          refine (AH_ready [6] (by kernel_rfl) (by decide) ?_)
          refine AHs_gT rfl rfl rfl rfl (by rw [hsp21]; rfl) rfl (by decide) (OpT_make (r := 801) (m := 10) rfl Try.underlying35 TI.hi5 TI.hz5 TI.hs5 rfl rfl (by rw [TI.hby5]; omega) (by unfold maxLen; omega) ((made_one _ _).trans (made_bytes 10)) (fun v76 => ?_)) ?_
          ·
            refine ⟨⟨rfl, trivial⟩, ?_⟩
            refine (AH_ready [7] (by kernel_rfl) (by decide) ?_)
            refine AHs_gT rfl rfl rfl rfl (by rw [hsp21]; rfl) rfl (by decide) (OpT_call 900 [0, 2, 3, 701, 801] [700] rfl Try.call11 rfl rfl rfl (by decide) (by decide) (put_spec gc (10 * (m + 1)) (getC (useL last) (keyB k)) (keyB k) (keyB_length _) v76 z10 _ (rd_star 4 rfl (fun h hp => rdP_cast (rowP_rd hp) rfl (List.length_replicate).symm))) (fun v77 Ps77 hR77 => ?_)) ?_
            ·
              obtain ⟨rfl, rfl⟩ := hR77
              refine ⟨⟨rfl, trivial⟩, ?_⟩
              rw [hpC, hpB]
              refine (AH_takeT 8 rfl (by kernel_rfl) (by kernel_rfl) (by kernel_rfl) rfl rfl rfl (by rw [hsp21]; rfl) rfl (by decide) (Pu_un rfl rfl (run_not _)) (AH_take 9 rfl (by kernel_rfl) (by kernel_rfl) (by kernel_rfl) rfl rfl (by decide) (Pu_pickT rfl rfl hsp21 rfl) (AH_done (by kernel_rfl) (X_then ?_))))
              refine W_false rfl (rfl) ?_
              refine W_skip (X_then ?_)
              refine W_seq ?_
              refine W.pre (K' := [(0, _), (1, _), (5, _), (7, _), (8, _), (9, _), (10, _), (11, _), (12, _), (14, _), (44, _), (69, _), (79, _)]) (L' := [(0, _), (2, _), (3, _), (701, _), (801, _), (900, _)]) ?_ ⟨rfl, ⟨rfl, ⟨rfl, ⟨rfl, ⟨rfl, ⟨rfl, ⟨rfl, ⟨rfl, ⟨rfl, ⟨rfl, ⟨rfl, ⟨rfl, ⟨rfl, trivial⟩⟩⟩⟩⟩⟩⟩⟩⟩⟩⟩⟩⟩ ⟨rfl, ⟨rfl, ⟨rfl, ⟨rfl, ⟨rfl, ⟨rfl, trivial⟩⟩⟩⟩⟩⟩
              refine W_regL (WL_pure rfl rfl (by decide) (Pu_move rfl rfl) (WL_cons rfl rfl (by decide) (OpT_buildOnes (r := 901) (is [k]) rfl rfl Try.runUnderlying40 Try.sizeOf3 Try.zeroValue3 rfl rfl (by decide) rfl (by simp [is, Value.cells]) (fun v81 => (WL_pure rfl rfl (by decide) (Pu_move rfl rfl) (WL_cons rfl rfl (by decide) (OpT_append (r := 901) (r2 := 3) rfl Try.underlying40 TI.hi3 TI.hz3 TI.hs3 TI.hby3 TI.hzs3 (by decide) rfl rfl rfl rfl (fun _ h => rowP_rd h) (is_one _) (by have := rest_len last k; unfold maxLen; omega) (by have := rest_len last k; omega) (fun v83 => ?_))))))))
              refine (WL_pure rfl rfl (by decide) (Pu_assign rfl rfl) (WL_nil (X_then ?_)))
              refine W_seq ?_
              refine W.pre (K' := [(0, _), (1, _), (5, _), (7, _), (8, _), (9, _), (10, _), (11, _), (12, _), (14, _), (44, _), (69, _), (79, _)]) (L' := [(0, _), (2, _), (3, _), (701, _), (801, _), (900, _), (901, _)]) ?_ ⟨rfl, ⟨rfl, ⟨rfl, ⟨rfl, ⟨rfl, ⟨rfl, ⟨rfl, ⟨rfl, ⟨rfl, ⟨rfl, ⟨rfl, ⟨rfl, ⟨rfl, trivial⟩⟩⟩⟩⟩⟩⟩⟩⟩⟩⟩⟩⟩ ⟨rfl, ⟨rfl, ⟨rfl, ⟨rfl, ⟨rfl, ⟨rfl, ⟨rfl, trivial⟩⟩⟩⟩⟩⟩⟩
              refine W_regL (WL_pure rfl rfl (by decide) (Pu_move rfl rfl) (WL_pure rfl rfl (by decide) (Pu_len (r := 901) rfl Try.runUnderlying40 rfl rfl (fun _ h => rowP_rd h)) (WL_pure rfl rfl (by decide) (Pu_move rfl rfl) (WL_pure rfl rfl (by decide) (Pu_bin rfl rfl rfl (run_gtr _ _ _ _ _ _)) (WL_nil (X_then ?_))))))
              refine W_cond rfl (fun hc87 => ?_) (fun hc87 => ?_)
              ·
                have hgt := of_decide_eq_true hc87
                refine W.pre (K' := [(0, _), (1, _), (5, _), (7, _), (8, _), (9, _), (10, _), (11, _), (12, _), (14, _), (44, _), (69, _), (79, _), (87, _)]) (L' := [(0, _), (2, _), (3, _), (701, _), (801, _), (900, _), (901, _)]) ?_ ⟨rfl, ⟨rfl, ⟨rfl, ⟨rfl, ⟨rfl, ⟨rfl, ⟨rfl, ⟨rfl, ⟨rfl, ⟨rfl, ⟨rfl, ⟨rfl, ⟨rfl, ⟨rfl, trivial⟩⟩⟩⟩⟩⟩⟩⟩⟩⟩⟩⟩⟩⟩ ⟨rfl, ⟨rfl, ⟨rfl, ⟨rfl, ⟨rfl, ⟨rfl, ⟨rfl, trivial⟩⟩⟩⟩⟩⟩⟩
                refine W_regL (WL_pure rfl rfl (by decide) (Pu_move rfl rfl) (WL_pure rfl rfl (by decide) (Pu_move rfl rfl) (WL_pure rfl rfl (by decide) (Pu_slice (r := 901) (a := 0) (b := (m + 1)) rfl Try.runUnderlying40 Try.sizeOf3 rfl rfl (fun _ h => rowP_rd h) (.inl ⟨rfl, rfl⟩) (.inr ⟨_, _, _, rfl, rfl, rfl⟩) (Nat.zero_le _) (by omega)) (WL_pure rfl rfl (by decide) (Pu_assign rfl rfl) (WL_nil (X_block (X_then ?_)))))))
                refine W.pre (K' := [(0, _), (1, _), (5, _), (7, _), (8, _), (9, _), (10, _), (11, _), (12, _), (14, _), (44, _), (69, _), (79, _), (87, _)]) (L' := [(0, _), (2, _), (3, _), (701, _), (801, _), (900, _), (901, _)]) ?_ ⟨rfl, ⟨rfl, ⟨rfl, ⟨rfl, ⟨rfl, ⟨rfl, ⟨rfl, ⟨rfl, ⟨rfl, ⟨rfl, ⟨rfl, ⟨rfl, ⟨rfl, ⟨rfl, trivial⟩⟩⟩⟩⟩⟩⟩⟩⟩⟩⟩⟩⟩⟩ ⟨rfl, ⟨rfl, ⟨rfl, ⟨rfl, ⟨rfl, ⟨rfl, ⟨rfl, trivial⟩⟩⟩⟩⟩⟩⟩
                refine W_regL (WL_pure rfl rfl (by decide) (Pu_move rfl rfl) (WL_pure rfl rfl (by decide) (Pu_bin rfl rfl rfl (run_add _ _ _ _ _ (by omega))) (WL_pure rfl rfl (by decide) (Pu_assign rfl rfl) (WL_nil ?_))))
                refine X_turn (P' := rowP 3 1 (subV 1 v83 0 (m + 1)) (m + 1) ((is [k] ++ is (rest last k)).take ((m + 1) * 1))) 901 rfl (fun h hp => rowP_cut hp (by omega)) ?_
                refine X_ren 901 2 rfl ?_
                refine X_ren 900 400 rfl ?_
                exact X_round (i + 1, subV 1 v83 0 (m + 1), ((k :: rest last k).take (m + 1))) (hu.next hk) (by show 60 - (i + 1) < 60 - i; omega) ⟨rfl, rfl, rfl, rfl, rfl, trivial⟩ ⟨rfl, rfl, look_eq rfl (rowN_of _ (by rw [List.length_take, List.length_cons]; omega) (by rw [Nat.mul_one]; simp [is, List.map_take])), trivial⟩
              ·
                have hle := of_decide_eq_false hc87
                refine W_skip (X_block (X_then ?_))
                refine W.pre (K' := [(0, _), (1, _), (5, _), (7, _), (8, _), (9, _), (10, _), (11, _), (12, _), (14, _), (44, _), (69, _), (79, _), (87, _)]) (L' := [(0, _), (2, _), (3, _), (701, _), (801, _), (900, _), (901, _)]) ?_ ⟨rfl, ⟨rfl, ⟨rfl, ⟨rfl, ⟨rfl, ⟨rfl, ⟨rfl, ⟨rfl, ⟨rfl, ⟨rfl, ⟨rfl, ⟨rfl, ⟨rfl, ⟨rfl, trivial⟩⟩⟩⟩⟩⟩⟩⟩⟩⟩⟩⟩⟩⟩ ⟨rfl, ⟨rfl, ⟨rfl, ⟨rfl, ⟨rfl, ⟨rfl, ⟨rfl, trivial⟩⟩⟩⟩⟩⟩⟩
                refine W_regL (WL_pure rfl rfl (by decide) (Pu_move rfl rfl) (WL_pure rfl rfl (by decide) (Pu_bin rfl rfl rfl (run_add _ _ _ _ _ (by omega))) (WL_pure rfl rfl (by decide) (Pu_assign rfl rfl) (WL_nil ?_))))
                refine X_ren 901 2 rfl ?_
                refine X_ren 900 400 rfl ?_
                exact X_round (i + 1, v83, ((k :: rest last k).take (m + 1))) (hu.next hk) (by show 60 - (i + 1) < 60 - i; omega) ⟨rfl, rfl, rfl, rfl, rfl, trivial⟩ ⟨rfl, rfl, look_eq rfl (rowN_of _ (by rw [List.length_take, List.length_cons]; omega) (by rw [List.take_of_length_le (by rw [List.length_cons]; omega)]; simp [is])), trivial⟩
            exact AHs_nil
          exact AHs_nil
        refine AHs_gT rfl rfl rfl rfl (by rw [hsp21]; rfl) rfl (by decide) (OpT_make (r := 701) (m := 10) rfl Try.underlying35 TI.hi5 TI.hz5 TI.hs5 rfl rfl (by rw [TI.hby5]; omega) (by unfold maxLen; omega) ((made_one _ _).trans (made_bytes 10)) (fun v76 => ?_)) ?_
        ·
          refine ⟨⟨rfl, trivial⟩, ?_⟩
          refine (AH_ready [5] (by kernel_rfl) (by decide) ?_)
          refine AHs_gT rfl rfl rfl rfl (by rw [hsp21]; rfl) rfl (by decide) (OpT_call 800 [0, 2, 3, 700, 701] [] rfl Try.call12 rfl rfl rfl (by decide) (by decide) (key_spec k _) (fun v75 Ps75 hR75 => ?_)) ?_
          ·
            obtain ⟨rfl, rfl⟩ := hR75
            refine ⟨⟨rfl, trivial⟩, ?_⟩
            refine (AH_ready [7] (by kernel_rfl) (by decide) ?_)
            refine AHs_gT rfl rfl rfl rfl (by rw [hsp21]; rfl) rfl (by decide) (OpT_call 900 [0, 2, 3, 701] [700] rfl Try.call11 rfl rfl rfl (by decide) (by decide) (put_spec gc (10 * (m + 1)) (getC (useL last) (keyB k)) (keyB k) (keyB_length _) v76 z10 _ (rd_star 3 rfl (fun h hp => rdP_cast (rowP_rd hp) rfl (List.length_replicate).symm))) (fun v77 Ps77 hR77 => ?_)) ?_
            ·
              obtain ⟨rfl, rfl⟩ := hR77
              refine ⟨⟨rfl, trivial⟩, ?_⟩
              rw [hpC, hpB]
              refine (AH_takeT 8 rfl (by kernel_rfl) (by kernel_rfl) (by kernel_rfl) rfl rfl rfl (by rw [hsp21]; rfl) rfl (by decide) (Pu_un rfl rfl (run_not _)) (AH_take 9 rfl (by kernel_rfl) (by kernel_rfl) (by kernel_rfl) rfl rfl (by decide) (Pu_pickT rfl rfl hsp21 rfl) (AH_done (by kernel_rfl) (X_then ?_))))
              refine W_false rfl (rfl) ?_
              refine W_skip (X_then ?_)
              refine W_seq ?_
              refine W.pre (K' := [(0, _), (1, _), (5, _), (7, _), (8, _), (9, _), (10, _), (11, _), (12, _), (14, _), (44, _), (69, _), (79, _)]) (L' := [(0, _), (2, _), (3, _), (701, _), (900, _)]) ?_ ⟨rfl, ⟨rfl, ⟨rfl, ⟨rfl, ⟨rfl, ⟨rfl, ⟨rfl, ⟨rfl, ⟨rfl, ⟨rfl, ⟨rfl, ⟨rfl, ⟨rfl, trivial⟩⟩⟩⟩⟩⟩⟩⟩⟩⟩⟩⟩⟩ ⟨rfl, ⟨rfl, ⟨rfl, ⟨rfl, ⟨rfl, trivial⟩⟩⟩⟩⟩
              refine W_regL (WL_pure rfl rfl (by decide) (Pu_move rfl rfl) (WL_cons rfl rfl (by decide) (OpT_buildOnes (r := 901) (is [k]) rfl rfl Try.runUnderlying40 Try.sizeOf3 Try.zeroValue3 rfl rfl (by decide) rfl (by simp [is, Value.cells]) (fun v81 => (WL_pure rfl rfl (by decide) (Pu_move rfl rfl) (WL_cons rfl rfl (by decide) (OpT_append (r := 901) (r2 := 3) rfl Try.underlying40 TI.hi3 TI.hz3 TI.hs3 TI.hby3 TI.hzs3 (by decide) rfl rfl rfl rfl (fun _ h => rowP_rd h) (is_one _) (by have := rest_len last k; unfold maxLen; omega) (by have := rest_len last k; omega) (fun v83 => ?_))))))))
              refine (WL_pure rfl rfl (by decide) (Pu_assign rfl rfl) (WL_nil (X_then ?_)))
              refine W_seq ?_
              refine W.pre (K' := [(0, _), (1, _), (5, _), (7, _), (8, _), (9, _), (10, _), (11, _), (12, _), (14, _), (44, _), (69, _), (79, _)]) (L' := [(0, _), (2, _), (3, _), (701, _), (900, _), (901, _)]) ?_ ⟨rfl, ⟨rfl, ⟨rfl, ⟨rfl, ⟨rfl, ⟨rfl, ⟨rfl, ⟨rfl, ⟨rfl, ⟨rfl, ⟨rfl, ⟨rfl, ⟨rfl, trivial⟩⟩⟩⟩⟩⟩⟩⟩⟩⟩⟩⟩⟩ ⟨rfl, ⟨rfl, ⟨rfl, ⟨rfl, ⟨rfl, ⟨rfl, trivial⟩⟩⟩⟩⟩⟩
              refine W_regL (WL_pure rfl rfl (by decide) (Pu_move rfl rfl) (WL_pure rfl rfl (by decide) (Pu_len (r := 901) rfl Try.runUnderlying40 rfl rfl (fun _ h => rowP_rd h)) (WL_pure rfl rfl (by decide) (Pu_move rfl rfl) (WL_pure rfl rfl (by decide) (Pu_bin rfl rfl rfl (run_gtr _ _ _ _ _ _)) (WL_nil (X_then ?_))))))
              refine W_cond rfl (fun hc87 => ?_) (fun hc87 => ?_)
              ·
                have hgt := of_decide_eq_true hc87
                refine W.pre (K' := [(0, _), (1, _), (5, _), (7, _), (8, _), (9, _), (10, _), (11, _), (12, _), (14, _), (44, _), (69, _), (79, _), (87, _)]) (L' := [(0, _), (2, _), (3, _), (701, _), (900, _), (901, _)]) ?_ ⟨rfl, ⟨rfl, ⟨rfl, ⟨rfl, ⟨rfl, ⟨rfl, ⟨rfl, ⟨rfl, ⟨rfl, ⟨rfl, ⟨rfl, ⟨rfl, ⟨rfl, ⟨rfl, trivial⟩⟩⟩⟩⟩⟩⟩⟩⟩⟩⟩⟩⟩⟩ ⟨rfl, ⟨rfl, ⟨rfl, ⟨rfl, ⟨rfl, ⟨rfl, trivial⟩⟩⟩⟩⟩⟩
                refine W_regL (WL_pure rfl rfl (by decide) (Pu_move rfl rfl) (WL_pure rfl rfl (by decide) (Pu_move rfl rfl) (WL_pure rfl rfl (by decide) (Pu_slice (r := 901) (a := 0) (b := (m + 1)) rfl Try.runUnderlying40 Try.sizeOf3 rfl rfl (fun _ h => rowP_rd h) (.inl ⟨rfl, rfl⟩) (.inr ⟨_, _, _, rfl, rfl, rfl⟩) (Nat.zero_le _) (by omega)) (WL_pure rfl rfl (by decide) (Pu_assign rfl rfl) (WL_nil (X_block (X_then ?_)))))))
                refine W.pre (K' := [(0, _), (1, _), (5, _), (7, _), (8, _), (9, _), (10, _), (11, _), (12, _), (14, _), (44, _), (69, _), (79, _), (87, _)]) (L' := [(0, _), (2, _), (3, _), (701, _), (900, _), (901, _)]) ?_ ⟨rfl, ⟨rfl, ⟨rfl, ⟨rfl, ⟨rfl, ⟨rfl, ⟨rfl, ⟨rfl, ⟨rfl, ⟨rfl, ⟨rfl, ⟨rfl, ⟨rfl, ⟨rfl, trivial⟩⟩⟩⟩⟩⟩⟩⟩⟩⟩⟩⟩⟩⟩ ⟨rfl, ⟨rfl, ⟨rfl, ⟨rfl, ⟨rfl, ⟨rfl, trivial⟩⟩⟩⟩⟩⟩
                refine W_regL (WL_pure rfl rfl (by decide) (Pu_move rfl rfl) (WL_pure rfl rfl (by decide) (Pu_bin rfl rfl rfl (run_add _ _ _ _ _ (by omega))) (WL_pure rfl rfl (by decide) (Pu_assign rfl rfl) (WL_nil ?_))))
                refine X_turn (P' := rowP 3 1 (subV 1 v83 0 (m + 1)) (m + 1) ((is [k] ++ is (rest last k)).take ((m + 1) * 1))) 901 rfl (fun h hp => rowP_cut hp (by omega)) ?_
                refine X_ren 901 2 rfl ?_
                refine X_ren 900 400 rfl ?_
                exact X_round (i + 1, subV 1 v83 0 (m + 1), ((k :: rest last k).take (m + 1))) (hu.next hk) (by show 60 - (i + 1) < 60 - i; omega) ⟨rfl, rfl, rfl, rfl, rfl, trivial⟩ ⟨rfl, rfl, look_eq rfl (rowN_of _ (by rw [List.length_take, List.length_cons]; omega) (by rw [Nat.mul_one]; simp [is, List.map_take])), trivial⟩
              ·
                have hle := of_decide_eq_false hc87
                refine W_skip (X_block (X_then ?_))
                refine W.pre (K' := [(0, _), (1, _), (5, _), (7, _), (8, _), (9, _), (10, _), (11, _), (12, _), (14, _), (44, _), (69, _), (79, _), (87, _)]) (L' := [(0, _), (2, _), (3, _), (701, _), (900, _), (901, _)]) ?_ ⟨rfl, ⟨rfl, ⟨rfl, ⟨rfl, ⟨rfl, ⟨rfl, ⟨rfl, ⟨rfl, ⟨rfl, ⟨rfl, ⟨rfl, ⟨rfl, ⟨rfl, ⟨rfl, trivial⟩⟩⟩⟩⟩⟩⟩⟩⟩⟩⟩⟩⟩⟩ ⟨rfl, ⟨rfl, ⟨rfl, ⟨rfl, ⟨rfl, ⟨rfl, trivial⟩⟩⟩⟩⟩⟩
                refine W_regL (WL_pure rfl rfl (by decide) (Pu_move rfl rfl) (WL_pure rfl rfl (by decide) (Pu_bin rfl rfl rfl (run_add _ _ _ _ _ (by omega))) (WL_pure rfl rfl (by decide) (Pu_assign rfl rfl) (WL_nil ?_))))
                refine X_ren 901 2 rfl ?_
                refine X_ren 900 400 rfl ?_
                exact X_round (i + 1, v83, ((k :: rest last k).take (m + 1))) (hu.next hk) (by show 60 - (i + 1) < 60 - i; omega) ⟨rfl, rfl, rfl, rfl, rfl, trivial⟩ ⟨rfl, rfl, look_eq rfl (rowN_of _ (by rw [List.length_take, List.length_cons]; omega) (by rw [List.take_of_length_le (by rw [List.length_cons]; omega)]; simp [is])), trivial⟩
            exact AHs_nil
          exact AHs_nil
        exact AHs_nil
      ·
        have hh : had last k = true := by simpa using hsp21
        refine W_draw (N := 10) (by kernel_rfl) rfl [(0, _)] ⟨rfl, trivial⟩ ?_
        refine (AH_take 0 rfl (by kernel_rfl) (by kernel_rfl) (by kernel_rfl) rfl rfl (by decide) (Pu_move rfl rfl) (AH_take 1 rfl (by kernel_rfl) (by kernel_rfl) (by kernel_rfl) rfl rfl (by decide) (Pu_un rfl rfl (run_not _)) (AH_take 2 rfl (by kernel_rfl) (by kernel_rfl) (by kernel_rfl) rfl rfl (by decide) (Pu_move rfl rfl) (AH_takeF 3 rfl (by kernel_rfl) (by kernel_rfl) (by kernel_rfl) rfl rfl rfl (by rw [hsp21]; rfl) rfl (by decide) (AH_takeF 4 rfl (by kernel_rfl) (by kernel_rfl) (by kernel_rfl) rfl rfl rfl (by rw [hsp21]; rfl) rfl (by decide) (AH_ready [5, 6] (by kernel_rfl) (by decide) ?_))))))
        refine AHs_gF rfl rfl rfl rfl (by rw [hsp21]; rfl) rfl (by decide) ?_ ?_
        ·
          refine (AH_ready [6] (by kernel_rfl) (by decide) ?_)
          refine AHs_gF rfl rfl rfl rfl (by rw [hsp21]; rfl) rfl (by decide) ?_ ?_
          ·
            refine (AH_ready [7] (by kernel_rfl) (by decide) ?_)
            refine AHs_gF rfl rfl rfl rfl (by rw [hsp21]; rfl) rfl (by decide) ?_ ?_
            ·
              refine (AH_takeF 8 rfl (by kernel_rfl) (by kernel_rfl) (by kernel_rfl) rfl rfl rfl (by rw [hsp21]; rfl) rfl (by decide) (AH_take 9 rfl (by kernel_rfl) (by kernel_rfl) (by kernel_rfl) rfl rfl (by decide) (Pu_pickF rfl rfl hsp21 rfl) (AH_done (by kernel_rfl) (X_then ?_))))
              refine W_false rfl (rfl) ?_
              refine W_skip (X_then ?_)
              refine W_seq ?_
              refine W.pre (K' := [(0, _), (1, _), (5, _), (7, _), (8, _), (9, _), (10, _), (11, _), (12, _), (14, _), (44, _), (69, _), (79, _)]) (L' := [(0, _), (2, _), (3, _), (700, _), (701, _)]) ?_ ⟨rfl, ⟨rfl, ⟨rfl, ⟨rfl, ⟨rfl, ⟨rfl, ⟨rfl, ⟨rfl, ⟨rfl, ⟨rfl, ⟨rfl, ⟨rfl, ⟨rfl, trivial⟩⟩⟩⟩⟩⟩⟩⟩⟩⟩⟩⟩⟩ ⟨rfl, ⟨rfl, ⟨rfl, ⟨rfl, ⟨rfl, trivial⟩⟩⟩⟩⟩
              refine W_regL (WL_pure rfl rfl (by decide) (Pu_move rfl rfl) (WL_cons rfl rfl (by decide) (OpT_buildOnes (r := 701) (is [k]) rfl rfl Try.runUnderlying40 Try.sizeOf3 Try.zeroValue3 rfl rfl (by decide) rfl (by simp [is, Value.cells]) (fun v81 => (WL_pure rfl rfl (by decide) (Pu_move rfl rfl) (WL_cons rfl rfl (by decide) (OpT_append (r := 701) (r2 := 3) rfl Try.underlying40 TI.hi3 TI.hz3 TI.hs3 TI.hby3 TI.hzs3 (by decide) rfl rfl rfl rfl (fun _ h => rowP_rd h) (is_one _) (by have := rest_len last k; unfold maxLen; omega) (by have := rest_len last k; omega) (fun v83 => ?_))))))))
              refine (WL_pure rfl rfl (by decide) (Pu_assign rfl rfl) (WL_nil (X_then ?_)))
              refine W_seq ?_
              refine W.pre (K' := [(0, _), (1, _), (5, _), (7, _), (8, _), (9, _), (10, _), (11, _), (12, _), (14, _), (44, _), (69, _), (79, _)]) (L' := [(0, _), (2, _), (3, _), (700, _), (701, _)]) ?_ ⟨rfl, ⟨rfl, ⟨rfl, ⟨rfl, ⟨rfl, ⟨rfl, ⟨rfl, ⟨rfl, ⟨rfl, ⟨rfl, ⟨rfl, ⟨rfl, ⟨rfl, trivial⟩⟩⟩⟩⟩⟩⟩⟩⟩⟩⟩⟩⟩ ⟨rfl, ⟨rfl, ⟨rfl, ⟨rfl, ⟨rfl, trivial⟩⟩⟩⟩⟩
              refine W_regL (WL_pure rfl rfl (by decide) (Pu_move rfl rfl) (WL_pure rfl rfl (by decide) (Pu_len (r := 701) rfl Try.runUnderlying40 rfl rfl (fun _ h => rowP_rd h)) (WL_pure rfl rfl (by decide) (Pu_move rfl rfl) (WL_pure rfl rfl (by decide) (Pu_bin rfl rfl rfl (run_gtr _ _ _ _ _ _)) (WL_nil (X_then ?_))))))
              refine W_cond rfl (fun hc87 => ?_) (fun hc87 => ?_)
              ·
                have hgt := of_decide_eq_true hc87
                refine W.pre (K' := [(0, _), (1, _), (5, _), (7, _), (8, _), (9, _), (10, _), (11, _), (12, _), (14, _), (44, _), (69, _), (79, _), (87, _)]) (L' := [(0, _), (2, _), (3, _), (700, _), (701, _)]) ?_ ⟨rfl, ⟨rfl, ⟨rfl, ⟨rfl, ⟨rfl, ⟨rfl, ⟨rfl, ⟨rfl, ⟨rfl, ⟨rfl, ⟨rfl, ⟨rfl, ⟨rfl, ⟨rfl, trivial⟩⟩⟩⟩⟩⟩⟩⟩⟩⟩⟩⟩⟩⟩ ⟨rfl, ⟨rfl, ⟨rfl, ⟨rfl, ⟨rfl, trivial⟩⟩⟩⟩⟩
                refine W_regL (WL_pure rfl rfl (by decide) (Pu_move rfl rfl) (WL_pure rfl rfl (by decide) (Pu_move rfl rfl) (WL_pure rfl rfl (by decide) (Pu_slice (r := 701) (a := 0) (b := (m + 1)) rfl Try.runUnderlying40 Try.sizeOf3 rfl rfl (fun _ h => rowP_rd h) (.inl ⟨rfl, rfl⟩) (.inr ⟨_, _, _, rfl, rfl, rfl⟩) (Nat.zero_le _) (by omega)) (WL_pure rfl rfl (by decide) (Pu_assign rfl rfl) (WL_nil (X_block (X_then ?_)))))))
                refine W.pre (K' := [(0, _), (1, _), (5, _), (7, _), (8, _), (9, _), (10, _), (11, _), (12, _), (14, _), (44, _), (69, _), (79, _), (87, _)]) (L' := [(0, _), (2, _), (3, _), (700, _), (701, _)]) ?_ ⟨rfl, ⟨rfl, ⟨rfl, ⟨rfl, ⟨rfl, ⟨rfl, ⟨rfl, ⟨rfl, ⟨rfl, ⟨rfl, ⟨rfl, ⟨rfl, ⟨rfl, ⟨rfl, trivial⟩⟩⟩⟩⟩⟩⟩⟩⟩⟩⟩⟩⟩⟩ ⟨rfl, ⟨rfl, ⟨rfl, ⟨rfl, ⟨rfl, trivial⟩⟩⟩⟩⟩
                refine W_regL (WL_pure rfl rfl (by decide) (Pu_move rfl rfl) (WL_pure rfl rfl (by decide) (Pu_bin rfl rfl rfl (run_add _ _ _ _ _ (by omega))) (WL_pure rfl rfl (by decide) (Pu_assign rfl rfl) (WL_nil ?_))))
                refine X_turn (P' := rowP 3 1 (subV 1 v83 0 (m + 1)) (m + 1) ((is [k] ++ is (rest last k)).take ((m + 1) * 1))) 701 rfl (fun h hp => rowP_cut hp (by omega)) ?_
                refine X_ren 701 2 rfl ?_
                refine X_ren 700 400 rfl ?_
                exact X_round (i + 1, subV 1 v83 0 (m + 1), ((k :: rest last k).take (m + 1))) (hu.next hk) (by show 60 - (i + 1) < 60 - i; omega) ⟨rfl, rfl, rfl, rfl, rfl, trivial⟩ ⟨rfl, look_eq rfl (by rw [use_get (n := m + 1) hu hk hh]), look_eq rfl (rowN_of _ (by rw [List.length_take, List.length_cons]; omega) (by rw [Nat.mul_one]; simp [is, List.map_take])), trivial⟩
              ·
                have hle := of_decide_eq_false hc87
                refine W_skip (X_block (X_then ?_))
                refine W.pre (K' := [(0, _), (1, _), (5, _), (7, _), (8, _), (9, _), (10, _), (11, _), (12, _), (14, _), (44, _), (69, _), (79, _), (87, _)]) (L' := [(0, _), (2, _), (3, _), (700, _), (701, _)]) ?_ ⟨rfl, ⟨rfl, ⟨rfl, ⟨rfl, ⟨rfl, ⟨rfl, ⟨rfl, ⟨rfl, ⟨rfl, ⟨rfl, ⟨rfl, ⟨rfl, ⟨rfl, ⟨rfl, trivial⟩⟩⟩⟩⟩⟩⟩⟩⟩⟩⟩⟩⟩⟩ ⟨rfl, ⟨rfl, ⟨rfl, ⟨rfl, ⟨rfl, trivial⟩⟩⟩⟩⟩
                refine W_regL (WL_pure rfl rfl (by decide) (Pu_move rfl rfl) (WL_pure rfl rfl (by decide) (Pu_bin rfl rfl rfl (run_add _ _ _ _ _ (by omega))) (WL_pure rfl rfl (by decide) (Pu_assign rfl rfl) (WL_nil ?_))))
                refine X_ren 701 2 rfl ?_
                refine X_ren 700 400 rfl ?_
                exact X_round (i + 1, v83, ((k :: rest last k).take (m + 1))) (hu.next hk) (by show 60 - (i + 1) < 60 - i; omega) ⟨rfl, rfl, rfl, rfl, rfl, trivial⟩ ⟨rfl, look_eq rfl (by rw [use_get (n := m + 1) hu hk hh]), look_eq rfl (rowN_of _ (by rw [List.length_take, List.length_cons]; omega) (by rw [List.take_of_length_le (by rw [List.length_cons]; omega)]; simp [is])), trivial⟩
            exact AHs_nil
          exact AHs_nil
        refine AHs_gF rfl rfl rfl rfl (by rw [hsp21]; rfl) rfl (by decide) ?_ ?_
        ·
          refine (AH_ready [5] (by kernel_rfl) (by decide) ?_)
          refine AHs_gF rfl rfl rfl rfl (by rw [hsp21]; rfl) rfl (by decide) ?_ ?_
          ·
            refine (AH_ready [7] (by kernel_rfl) (by decide) ?_)
            refine AHs_gF rfl rfl rfl rfl (by rw [hsp21]; rfl) rfl (by decide) ?_ ?_
            ·
              refine (AH_takeF 8 rfl (by kernel_rfl) (by kernel_rfl) (by kernel_rfl) rfl rfl rfl (by rw [hsp21]; rfl) rfl (by decide) (AH_take 9 rfl (by kernel_rfl) (by kernel_rfl) (by kernel_rfl) rfl rfl (by decide) (Pu_pickF rfl rfl hsp21 rfl) (AH_done (by kernel_rfl) (X_then ?_))))
              refine W_false rfl (rfl) ?_
              refine W_skip (X_then ?_)
              refine W_seq ?_
              refine W.pre (K' := [(0, _), (1, _), (5, _), (7, _), (8, _), (9, _), (10, _), (11, _), (12, _), (14, _), (44, _), (69, _), (79, _)]) (L' := [(0, _), (2, _), (3, _), (700, _), (701, _)]) ?_ ⟨rfl, ⟨rfl, ⟨rfl, ⟨rfl, ⟨rfl, ⟨rfl, ⟨rfl, ⟨rfl, ⟨rfl, ⟨rfl, ⟨rfl, ⟨rfl, ⟨rfl, trivial⟩⟩⟩⟩⟩⟩⟩⟩⟩⟩⟩⟩⟩ ⟨rfl, ⟨rfl, ⟨rfl, ⟨rfl, ⟨rfl, trivial⟩⟩⟩⟩⟩
              refine W_regL (WL_pure rfl rfl (by decide) (Pu_move rfl rfl) (WL_cons rfl rfl (by decide) (OpT_buildOnes (r := 701) (is [k]) rfl rfl Try.runUnderlying40 Try.sizeOf3 Try.zeroValue3 rfl rfl (by decide) rfl (by simp [is, Value.cells]) (fun v81 => (WL_pure rfl rfl (by decide) (Pu_move rfl rfl) (WL_cons rfl rfl (by decide) (OpT_append (r := 701) (r2 := 3) rfl Try.underlying40 TI.hi3 TI.hz3 TI.hs3 TI.hby3 TI.hzs3 (by decide) rfl rfl rfl rfl (fun _ h => rowP_rd h) (is_one _) (by have := rest_len last k; unfold maxLen; omega) (by have := rest_len last k; omega) (fun v83 => ?_))))))))
              refine (WL_pure rfl rfl (by decide) (Pu_assign rfl rfl) (WL_nil (X_then ?_)))
              refine W_seq ?_
              refine W.pre (K' := [(0, _), (1, _), (5, _), (7, _), (8, _), (9, _), (10, _), (11, _), (12, _), (14, _), (44, _), (69, _), (79, _)]) (L' := [(0, _), (2, _), (3, _), (700, _), (701, _)]) ?_ ⟨rfl, ⟨rfl, ⟨rfl, ⟨rfl, ⟨rfl, ⟨rfl, ⟨rfl, ⟨rfl, ⟨rfl, ⟨rfl, ⟨rfl, ⟨rfl, ⟨rfl, trivial⟩⟩⟩⟩⟩⟩⟩⟩⟩⟩⟩⟩⟩ ⟨rfl, ⟨rfl, ⟨rfl, ⟨rfl, ⟨rfl, trivial⟩⟩⟩⟩⟩
              refine W_regL (WL_pure rfl rfl (by decide) (Pu_move rfl rfl) (WL_pure rfl rfl (by decide) (Pu_len (r := 701) rfl Try.runUnderlying40 rfl rfl (fun _ h => rowP_rd h)) (WL_pure rfl rfl (by decide) (Pu_move rfl rfl) (WL_pure rfl rfl (by decide) (Pu_bin rfl rfl rfl (run_gtr _ _ _ _ _ _)) (WL_nil (X_then ?_))))))
              refine W_cond rfl (fun hc87 => ?_) (fun hc87 => ?_)
              ·
                have hgt := of_decide_eq_true hc87
                refine W.pre (K' := [(0, _), (1, _), (5, _), (7, _), (8, _), (9, _), (10, _), (11, _), (12, _), (14, _), (44, _), (69, _), (79, _), (87, _)]) (L' := [(0, _), (2, _), (3, _), (700, _), (701, _)]) ?_ ⟨rfl, ⟨rfl, ⟨rfl, ⟨rfl, ⟨rfl, ⟨rfl, ⟨rfl, ⟨rfl, ⟨rfl, ⟨rfl, ⟨rfl, ⟨rfl, ⟨rfl, ⟨rfl, trivial⟩⟩⟩⟩⟩⟩⟩⟩⟩⟩⟩⟩⟩⟩ ⟨rfl, ⟨rfl, ⟨rfl, ⟨rfl, ⟨rfl, trivial⟩⟩⟩⟩⟩
                refine W_regL (WL_pure rfl rfl (by decide) (Pu_move rfl rfl) (WL_pure rfl rfl (by decide) (Pu_move rfl rfl) (WL_pure rfl rfl (by decide) (Pu_slice (r := 701) (a := 0) (b := (m + 1)) rfl Try.runUnderlying40 Try.sizeOf3 rfl rfl (fun _ h => rowP_rd h) (.inl ⟨rfl, rfl⟩) (.inr ⟨_, _, _, rfl, rfl, rfl⟩) (Nat.zero_le _) (by omega)) (WL_pure rfl rfl (by decide) (Pu_assign rfl rfl) (WL_nil (X_block (X_then ?_)))))))
                refine W.pre (K' := [(0, _), (1, _), (5, _), (7, _), (8, _), (9, _), (10, _), (11, _), (12, _), (14, _), (44, _), (69, _), (79, _), (87, _)]) (L' := [(0, _), (2, _), (3, _), (700, _), (701, _)]) ?_ ⟨rfl, ⟨rfl, ⟨rfl, ⟨rfl, ⟨rfl, ⟨rfl, ⟨rfl, ⟨rfl, ⟨rfl, ⟨rfl, ⟨rfl, ⟨rfl, ⟨rfl, ⟨rfl, trivial⟩⟩⟩⟩⟩⟩⟩⟩⟩⟩⟩⟩⟩⟩ ⟨rfl, ⟨rfl, ⟨rfl, ⟨rfl, ⟨rfl, trivial⟩⟩⟩⟩⟩
                refine W_regL (WL_pure rfl rfl (by decide) (Pu_move rfl rfl) (WL_pure rfl rfl (by decide) (Pu_bin rfl rfl rfl (run_add _ _ _ _ _ (by omega))) (WL_pure rfl rfl (by decide) (Pu_assign rfl rfl) (WL_nil ?_))))
                refine X_turn (P' := rowP 3 1 (subV 1 v83 0 (m + 1)) (m + 1) ((is [k] ++ is (rest last k)).take ((m + 1) * 1))) 701 rfl (fun h hp => rowP_cut hp (by omega)) ?_
                refine X_ren 701 2 rfl ?_
                refine X_ren 700 400 rfl ?_
                exact X_round (i + 1, subV 1 v83 0 (m + 1), ((k :: rest last k).take (m + 1))) (hu.next hk) (by show 60 - (i + 1) < 60 - i; omega) ⟨rfl, rfl, rfl, rfl, rfl, trivial⟩ ⟨rfl, look_eq rfl (by rw [use_get (n := m + 1) hu hk hh]), look_eq rfl (rowN_of _ (by rw [List.length_take, List.length_cons]; omega) (by rw [Nat.mul_one]; simp [is, List.map_take])), trivial⟩
              ·
                have hle := of_decide_eq_false hc87
                refine W_skip (X_block (X_then ?_))
                refine W.pre (K' := [(0, _), (1, _), (5, _), (7, _), (8, _), (9, _), (10, _), (11, _), (12, _), (14, _), (44, _), (69, _), (79, _), (87, _)]) (L' := [(0, _), (2, _), (3, _), (700, _), (701, _)]) ?_ ⟨rfl, ⟨rfl, ⟨rfl, ⟨rfl, ⟨rfl, ⟨rfl, ⟨rfl, ⟨rfl, ⟨rfl, ⟨rfl, ⟨rfl, ⟨rfl, ⟨rfl, ⟨rfl, trivial⟩⟩⟩⟩⟩⟩⟩⟩⟩⟩⟩⟩⟩⟩ ⟨rfl, ⟨rfl, ⟨rfl, ⟨rfl, ⟨rfl, trivial⟩⟩⟩⟩⟩
                refine W_regL (WL_pure rfl rfl (by decide) (Pu_move rfl rfl) (WL_pure rfl rfl (by decide) (Pu_bin rfl rfl rfl (run_add _ _ _ _ _ (by omega))) (WL_pure rfl rfl (by decide) (Pu_assign rfl rfl) (WL_nil ?_))))
                refine X_ren 701 2 rfl ?_
                refine X_ren 700 400 rfl ?_
                exact X_round (i + 1, v83, ((k :: rest last k).take (m + 1))) (hu.next hk) (by show 60 - (i + 1) < 60 - i; omega) ⟨rfl, rfl, rfl, rfl, rfl, trivial⟩ ⟨rfl, look_eq rfl (by rw [use_get (n := m + 1) hu hk hh]), look_eq rfl (rowN_of _ (by rw [List.length_take, List.length_cons]; omega) (by rw [List.take_of_length_le (by rw [List.length_cons]; omega)]; simp [is])), trivial⟩
            exact AHs_nil
          exact AHs_nil
        exact AHs_nil
  ·
    refine W_exit (X_then_exit (X_then_exit (X_block_exit (X_then ?_))))
    refine W_seq ?_
    refine W.pre (K' := [(0, _), (1, _), (5, _), (7, _), (8, _), (33, _)]) (L' := [(0, _), (2, _), (400, _)]) ?_ ⟨rfl, ⟨rfl, ⟨rfl, ⟨rfl, ⟨rfl, ⟨rfl, trivial⟩⟩⟩⟩⟩⟩ ⟨rfl, ⟨rfl, ⟨rfl, trivial⟩⟩⟩
    refine W_regL (WL_pure rfl rfl (by decide) (Pu_move rfl rfl) (WL_cons rfl rfl (by decide) (OpT_call 500 [0, 2] [400] rfl Try.call14 rfl rfl rfl (by decide) (by decide) (keys_spec gc (10 * (m + 1)) (useL last) _) (fun v92 Ps92 hR92 => ?_))))
    subst hR92
    refine (WL_pure rfl rfl (by decide) (Pu_len (r := 501) rfl Try.runUnderlying37 rfl rfl rowI_rd) (WL_pure rfl rfl (by decide) (Pu_move rfl rfl) (WL_pure rfl rfl (by decide) (Pu_len (r := 2) rfl Try.runUnderlying40 rfl rfl (fun _ h => rowP_rd h)) (WL_pure rfl rfl (by decide) (Pu_bin rfl rfl rfl (run_eql _ _ _ _ _ _)) (WL_pure rfl rfl (by decide) (Pu_assign rfl rfl) (WL_nil (X_then ?_)))))))
    refine W_ret ?_
    exact X_ret [] (Ps := []) (res1 Try.results6 rfl) rfl (by decide) (bool_val12 (by rw [List.length_reverse, keys_length]; simp [useL]))

theorem cacheUse_any (W : World) (a0 : Int) (lo0 : -9223372036854775808 ≤ a0) (hi0 : a0 ≤ 9223372036854775807) (v1 : Value) (l1 : List Int) (hr1 : RdI W v1 l1) (hz1 : I64 l1) (hl1 : l1.length ≤ maxLen) :
    Calls Try.prog 6 #[.int .i64 a0, v1] W fun e W' => e = .returned (.bool true) ∧ Chg [] W W' := calls_law (cacheUse_law W a0 v1 l1 hr1)
end Go.Proofs.Ytamhhkjddmjanaa
