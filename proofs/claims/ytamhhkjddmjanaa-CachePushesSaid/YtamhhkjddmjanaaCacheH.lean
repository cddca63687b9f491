/- Caches: the law of pushes. -/
import Derived.Test.YtamhhkjddmjanaaCacheD
import Derived.Test.YtamhhkjddmjanaaCache4
import Derived.Test.YtamhhkjddmjanaaOpen2
namespace Go.Proofs.Ytamhhkjddmjanaa
open Go.RowKit
set_option linter.unusedVariables false
set_option linter.unusedSimpArgs false

theorem is_one (l : List Int) : ∀ u ∈ is l, u.oneCell' = true := by
  intro u hu
  simp only [is, List.mem_map] at hu
  obtain ⟨x, _, rfl⟩ := hu
  rfl
theorem rowN_of {e : TypeId} {v : Value} {n : Nat} {xs : List Value} (l : List Int) (hn : n = l.length) (hx : xs = is l) : rowP e 1 v n xs = rowP e 1 v l.length (is l) := by subst hn; subst hx; rfl
theorem cachePushes_law (Wo : World) (vs : Value) (sizes : List Int) (hrs : Rd Wo 1 vs sizes.length (is sizes)) (great0 : Int) :
    CallsS Try.prog 4 #[vs, .int .i64 great0] (orig Wo) [] (fun v Ps => v = .bool true) := by
  refine callsS_enter Try.func4 rfl Try.ntmps4 (by simp) (fun E => ?_)
  refine W_seq ?_
  refine W.pre (K' := [(0, _), (1, _)]) (L' := [(0, _)]) ?_ ⟨rfl, ⟨rfl, trivial⟩⟩ ⟨rfl, trivial⟩
  refine W_regL (WL_pure rfl rfl (by decide) (Pu_assign rfl rfl) (WL_nil (X_then ?_)))
  refine W_seq ?_
  refine W_seq ?_
  refine W.pre (K' := [(0, _), (1, _), (4, _)]) (L' := [(0, _)]) ?_ ⟨rfl, ⟨rfl, ⟨rfl, trivial⟩⟩⟩ ⟨rfl, trivial⟩
  refine W_regL (WL_cons rfl rfl (by decide) (OpT_call 200 [0] [] rfl Try.call8 rfl rfl rfl (by decide) (by decide) (known_spec _) (fun v13 Ps13 hR13 => ?_)))
  obtain ⟨rfl, rfl⟩ := hR13
  refine (WL_pure rfl rfl (by decide) (Pu_un rfl rfl (run_not _)) (WL_nil (X_then ?_)))
  refine W_false rfl (rfl) ?_
  refine W_skip (X_then ?_)
  refine W_seq ?_
  refine W.pre (K' := [(0, _), (1, _), (4, _), (14, _)]) (L' := [(0, _)]) ?_ ⟨rfl, ⟨rfl, ⟨rfl, ⟨rfl, trivial⟩⟩⟩⟩ ⟨rfl, trivial⟩
  refine W_regL (WL_cons rfl rfl (by decide) (OpT_call 300 [0] [] rfl Try.call10 rfl rfl rfl (by decide) (by decide) (new_good 100 (by decide) _) (fun v16 Ps16 hR16 => ?_)))
  obtain ⟨gc, rfl, rfl⟩ := hR16
  refine (WL_pure rfl rfl (by decide) (Pu_move rfl rfl) (WL_pure rfl rfl (by decide) (Pu_extract rfl rfl rfl) (WL_pure rfl rfl (by decide) (Pu_extract rfl rfl rfl) (WL_pure rfl rfl (by decide) (Pu_assign rfl rfl) (WL_pure rfl rfl (by decide) (Pu_assign rfl rfl) (WL_nil (X_then ?_)))))))
  refine W_seq ?_
  refine W.pre (K' := [(0, _), (1, _), (4, _), (5, _), (14, _)]) (L' := [(0, _), (300, _)]) ?_ ⟨rfl, ⟨rfl, ⟨rfl, ⟨rfl, ⟨rfl, trivial⟩⟩⟩⟩⟩ ⟨rfl, ⟨rfl, trivial⟩⟩
  refine W_nilRow 2 3 1 ?_
  refine W_regL (WL_pure rfl rfl (by decide) (Pu_assign rfl rfl) (WL_nil (X_then ?_)))
  refine W_seq ?_
  refine W.pre (K' := [(0, _), (1, _), (4, _), (5, _), (7, _), (14, _)]) (L' := [(0, _), (2, _), (300, _)]) ?_ ⟨rfl, ⟨rfl, ⟨rfl, ⟨rfl, ⟨rfl, ⟨rfl, trivial⟩⟩⟩⟩⟩⟩ ⟨rfl, ⟨rfl, ⟨rfl, trivial⟩⟩⟩
  refine W_regL (WL_pure rfl rfl (by decide) (Pu_assign rfl rfl) (WL_nil (X_then ?_)))
  refine W_seq ?_
  refine W_seq ?_
  refine W.pre (K' := [(0, _), (1, _), (4, _), (5, _), (7, _), (8, _), (14, _)]) (L' := [(0, _), (2, _), (300, _)]) ?_ ⟨rfl, ⟨rfl, ⟨rfl, ⟨rfl, ⟨rfl, ⟨rfl, ⟨rfl, trivial⟩⟩⟩⟩⟩⟩⟩ ⟨rfl, ⟨rfl, ⟨rfl, trivial⟩⟩⟩
  refine W_regL (WL_pure rfl rfl (by decide) (Pu_assign rfl rfl) (WL_nil (X_then ?_)))
  refine W_block ?_
  refine W_loop (α := Value × List Int) (fun q => [(0, vs), (1, .int .i64 great0), (5, .pointer (some ⟨gc, 0, none⟩)), (7, q.1), (8, .int .i64 (sumI q.2)), (9, .int .i64 (q.2.length : Int))]) (fun q => [(0, orig Wo), (300, cacheP gc 100 (pushFrom 0 q.2)), (2, rowP 3 1 q.1 q.2.length (is q.2))]) (fun q => (∀ n ∈ q.2, 1 ≤ n ∧ n ≤ 9) ∧ q.2.length ≤ 10) (fun q => 10 - q.2.length) ((.slice none 0 0, [])) ⟨fun n hn => by simp at hn, by simp⟩ ⟨rfl, ⟨rfl, ⟨rfl, ⟨rfl, ⟨rfl, ⟨rfl, trivial⟩⟩⟩⟩⟩⟩ ⟨rfl, ⟨rfl, ⟨rfl, trivial⟩⟩⟩ (fun q hq => ?_)
  obtain ⟨hs, hns⟩ : (∀ n ∈ q.2, 1 ≤ n ∧ n ≤ 9) ∧ q.2.length ≤ 10 := hq
  have hsum := sumI_le q.2 hs
  refine W_seq ?_
  refine W_seq ?_
  refine W.pre (K' := [(0, _), (1, _), (5, _), (7, _), (8, _), (9, _)]) (L' := [(0, _), (2, _), (300, _)]) ?_ ⟨rfl, ⟨rfl, ⟨rfl, ⟨rfl, ⟨rfl, ⟨rfl, trivial⟩⟩⟩⟩⟩⟩ ⟨rfl, ⟨rfl, ⟨rfl, trivial⟩⟩⟩
  refine W_regL (WL_pure rfl rfl (by decide) (Pu_move rfl rfl) (WL_pure rfl rfl (by decide) (Pu_move rfl rfl) (WL_pure rfl rfl (by decide) (Pu_len (r := 0) rfl Try.runUnderlying40 rfl rfl (fun h hp => Rd.orig hrs h hp)) (WL_pure rfl rfl (by decide) (Pu_bin rfl rfl rfl (run_lss _ _ _ _ _ _)) (WL_pure rfl rfl (by decide) (Pu_move rfl rfl) (WL_guardP rfl rfl rfl rfl (by decide) (fun hb => (Pu_move rfl rfl)) (WL_guardP rfl rfl rfl rfl (by decide) (fun hb => (Pu_bin rfl (ev_gv rfl hb) rfl (run_lss _ _ _ _ _ _))) (WL_pure rfl rfl (by decide) (Pu_and rfl rfl rfl) (WL_nil (X_then ?_))))))))))
  refine W_cond rfl (fun hc26 => ?_) (fun hc26 => ?_)
  ·
    have hi : q.2.length < sizes.length ∧ q.2.length < 10 := by simp at hc26; omega
    obtain ⟨hi1, hi2⟩ := hi
    refine W_skip (X_then ?_)
    refine W_seq ?_
    refine W_block ?_
    refine W_seq ?_
    refine W.pre (K' := [(0, _), (1, _), (5, _), (7, _), (8, _), (9, _), (26, _)]) (L' := [(0, _), (2, _), (300, _)]) ?_ ⟨rfl, ⟨rfl, ⟨rfl, ⟨rfl, ⟨rfl, ⟨rfl, ⟨rfl, trivial⟩⟩⟩⟩⟩⟩⟩ ⟨rfl, ⟨rfl, ⟨rfl, trivial⟩⟩⟩
    refine W_regL (WL_pure rfl rfl (by decide) (Pu_move rfl rfl) (WL_pure rfl rfl (by decide) (Pu_move rfl rfl) (WL_pure rfl rfl (by decide) (Pu_idxS1 (r := 0) rfl Try.runUnderlying40 Try.sizeOf3 rfl rfl rfl (fun h hp => Rd.orig hrs h hp) (by omega)) (WL_pure rfl rfl (by decide) (Pu_loadS (r := 0) rfl Try.isAgg3 rfl rfl (fun h hp => Rd.orig hrs h hp) (is_at (k := q.2.length) hi1)) (WL_cons rfl rfl (by decide) (OpT_call 400 [0, 2, 300] [] rfl Try.call9 rfl rfl rfl (by decide) (by decide) (within_spec (sizes.getD q.2.length 0) 9 (by omega) (by omega) _) (fun v33 Ps33 hR33 => ?_)))))))
    obtain ⟨rfl, rfl⟩ := hR33
    refine (WL_pure rfl rfl (by decide) (Pu_bin rfl rfl rfl (run_add _ _ _ _ _ (by omega))) ?_)
    obtain ⟨n, hnd⟩ : ∃ n, 1 + sizes.getD q.2.length 0 % 9 = n := ⟨_, rfl⟩
    have hn : 1 ≤ n ∧ n ≤ 9 := by omega
    rw [hnd]
    obtain ⟨hp1, hp2⟩ := push_step hs hn hi2
    refine (WL_pure rfl rfl (by decide) (Pu_assign rfl rfl) (WL_nil (X_then ?_)))
    refine W_seq ?_
    refine W_seq ?_
    refine W.pre (K' := [(0, _), (1, _), (5, _), (7, _), (8, _), (9, _), (10, _), (26, _)]) (L' := [(0, _), (2, _), (300, _)]) ?_ ⟨rfl, ⟨rfl, ⟨rfl, ⟨rfl, ⟨rfl, ⟨rfl, ⟨rfl, ⟨rfl, trivial⟩⟩⟩⟩⟩⟩⟩⟩ ⟨rfl, ⟨rfl, ⟨rfl, trivial⟩⟩⟩
    refine W_draw (N := 7) (by kernel_rfl) rfl [(0, _)] ⟨rfl, trivial⟩ ?_
    refine (AH_take 0 rfl (by kernel_rfl) (by kernel_rfl) (by kernel_rfl) rfl rfl (by decide) (Pu_move rfl rfl) (AH_take 1 rfl (by kernel_rfl) (by kernel_rfl) (by kernel_rfl) rfl rfl (by decide) (Pu_move rfl rfl) (AH_take 3 rfl (by kernel_rfl) (by kernel_rfl) (by kernel_rfl) rfl rfl (by decide) (Pu_move rfl rfl) (AH_ready [2, 4] (by kernel_rfl) (by decide) ?_))))
    refine AHs_cons rfl rfl rfl (by decide) (OpT_call 500 [0, 2, 300] [] rfl Try.call12 rfl rfl rfl (by decide) (by decide) (key_spec (q.2.length : Int) _) (fun v37 Ps37 hR37 => ?_)) ?_
    ·
      obtain ⟨rfl, rfl⟩ := hR37
      refine ⟨⟨rfl, trivial⟩, ?_⟩
      refine (AH_ready [4] (by kernel_rfl) (by decide) ?_)
      refine AHs_cons rfl rfl rfl (by decide) (OpT_make (r := 501) (m := n.toNat) rfl Try.underlying35 TI.hi5 TI.hz5 TI.hs5 (evK_eq rfl (int_eq (show n = ((n.toNat : Nat) : Int) by omega))) (evK_eq rfl (int_eq (show n = ((n.toNat : Nat) : Int) by omega))) (by rw [TI.hby5]; omega) (by unfold maxLen; omega) ((made_one _ _).trans (made_bytes n.toNat)) (fun v39 => ?_)) ?_
      ·
        refine ⟨⟨rfl, trivial⟩, ?_⟩
        refine (AH_ready [5] (by kernel_rfl) (by decide) ?_)
        refine AHs_cons rfl rfl rfl (by decide) (OpT_call 600 [0, 2, 501] [300] rfl Try.call11 rfl rfl rfl (by decide) (by decide) (put_spec gc 100 (pushFrom 0 q.2) (keyB (q.2.length : Int)) (keyB_length _) v39 (zs n) _ (rd_star 2 rfl (fun h hp => rdP_cast (rowP_rd hp) rfl (show n.toNat = (zs n).length by simp [zs])))) (fun v40 Ps40 hR40 => ?_)) ?_
        ·
          obtain ⟨rfl, rfl⟩ := hR40
          refine ⟨⟨rfl, trivial⟩, ?_⟩
          rw [hp1, hp2]
          refine (AH_take 6 rfl (by kernel_rfl) (by kernel_rfl) (by kernel_rfl) rfl rfl (by decide) (Pu_un rfl rfl (run_not _)) (AH_done (by kernel_rfl) (X_then ?_)))
          refine W_false rfl (rfl) ?_
          refine W_skip (X_then ?_)
          refine W_seq ?_
          refine W.pre (K' := [(0, _), (1, _), (5, _), (7, _), (8, _), (9, _), (10, _), (26, _), (41, _)]) (L' := [(0, _), (2, _), (501, _), (600, _)]) ?_ ⟨rfl, ⟨rfl, ⟨rfl, ⟨rfl, ⟨rfl, ⟨rfl, ⟨rfl, ⟨rfl, ⟨rfl, trivial⟩⟩⟩⟩⟩⟩⟩⟩⟩ ⟨rfl, ⟨rfl, ⟨rfl, ⟨rfl, trivial⟩⟩⟩⟩
          refine W_regL (WL_pure rfl rfl (by decide) (Pu_move rfl rfl) (WL_pure rfl rfl (by decide) (Pu_move rfl rfl) (WL_cons rfl rfl (by decide) (OpT_buildOnes (r := 601) (is [n]) rfl rfl Try.runUnderlying40 Try.sizeOf3 Try.zeroValue3 rfl rfl (by decide) rfl (by simp [is, Value.cells]) (fun v44 => (WL_cons rfl rfl (by decide) (OpT_append (r := 2) (r2 := 601) rfl Try.underlying40 TI.hi3 TI.hz3 TI.hs3 TI.hby3 TI.hzs3 (by decide) rfl rfl rfl rfl (fun _ h => rowP_rd h) (is_one _) (by unfold maxLen; omega) (by omega) (fun v45 => ?_))))))))
          refine (WL_pure rfl rfl (by decide) (Pu_assign rfl rfl) (WL_nil (X_then ?_)))
          refine W.pre (K' := [(0, _), (1, _), (5, _), (7, _), (8, _), (9, _), (10, _), (26, _), (41, _)]) (L' := [(0, _), (2, _), (501, _), (600, _), (601, _)]) ?_ ⟨rfl, ⟨rfl, ⟨rfl, ⟨rfl, ⟨rfl, ⟨rfl, ⟨rfl, ⟨rfl, ⟨rfl, trivial⟩⟩⟩⟩⟩⟩⟩⟩⟩ ⟨rfl, ⟨rfl, ⟨rfl, ⟨rfl, ⟨rfl, trivial⟩⟩⟩⟩⟩
          refine W_regL (WL_pure rfl rfl (by decide) (Pu_move rfl rfl) (WL_pure rfl rfl (by decide) (Pu_move rfl rfl) (WL_pure rfl rfl (by decide) (Pu_bin rfl rfl rfl (run_add _ _ _ _ _ (by omega))) (WL_pure rfl rfl (by decide) (Pu_assign rfl rfl) (WL_nil (X_block (X_then ?_)))))))
          refine W.pre (K' := [(0, _), (1, _), (5, _), (7, _), (8, _), (9, _), (10, _), (26, _), (41, _)]) (L' := [(0, _), (2, _), (501, _), (600, _), (601, _)]) ?_ ⟨rfl, ⟨rfl, ⟨rfl, ⟨rfl, ⟨rfl, ⟨rfl, ⟨rfl, ⟨rfl, ⟨rfl, trivial⟩⟩⟩⟩⟩⟩⟩⟩⟩ ⟨rfl, ⟨rfl, ⟨rfl, ⟨rfl, ⟨rfl, trivial⟩⟩⟩⟩⟩
          refine W_regL (WL_pure rfl rfl (by decide) (Pu_move rfl rfl) (WL_pure rfl rfl (by decide) (Pu_bin rfl rfl rfl (run_add _ _ _ _ _ (by omega))) (WL_pure rfl rfl (by decide) (Pu_assign rfl rfl) (WL_nil ?_))))
          refine X_ren 600 300 rfl ?_
          exact X_round (v45, q.2 ++ [n]) ⟨fun y hy => by rcases List.mem_append.1 hy with h | h; exact hs y h; simp at h; rw [h]; exact hn, by simp; omega⟩ (by show 10 - (q.2 ++ [n]).length < 10 - q.2.length; simp; omega) ⟨rfl, rfl, rfl, rfl, lookV_eq rfl (int_eq (by rw [sumI_app])), lookV_eq rfl (int_eq (by simp)), trivial⟩ ⟨rfl, rfl, look_eq rfl (rowN_of (q.2 ++ [n]) (by simp) (by simp [is])), trivial⟩
        exact AHs_nil
      exact AHs_nil
    refine AHs_cons rfl rfl rfl (by decide) (OpT_make (r := 401) (m := n.toNat) rfl Try.underlying35 TI.hi5 TI.hz5 TI.hs5 (evK_eq rfl (int_eq (show n = ((n.toNat : Nat) : Int) by omega))) (evK_eq rfl (int_eq (show n = ((n.toNat : Nat) : Int) by omega))) (by rw [TI.hby5]; omega) (by unfold maxLen; omega) ((made_one _ _).trans (made_bytes n.toNat)) (fun v39 => ?_)) ?_
    ·
      refine ⟨⟨rfl, trivial⟩, ?_⟩
      refine (AH_ready [2] (by kernel_rfl) (by decide) ?_)
      refine AHs_cons rfl rfl rfl (by decide) (OpT_call 500 [0, 2, 300, 401] [] rfl Try.call12 rfl rfl rfl (by decide) (by decide) (key_spec (q.2.length : Int) _) (fun v37 Ps37 hR37 => ?_)) ?_
      ·
        obtain ⟨rfl, rfl⟩ := hR37
        refine ⟨⟨rfl, trivial⟩, ?_⟩
        refine (AH_ready [5] (by kernel_rfl) (by decide) ?_)
        refine AHs_cons rfl rfl rfl (by decide) (OpT_call 600 [0, 2, 401] [300] rfl Try.call11 rfl rfl rfl (by decide) (by decide) (put_spec gc 100 (pushFrom 0 q.2) (keyB (q.2.length : Int)) (keyB_length _) v39 (zs n) _ (rd_star 2 rfl (fun h hp => rdP_cast (rowP_rd hp) rfl (show n.toNat = (zs n).length by simp [zs])))) (fun v40 Ps40 hR40 => ?_)) ?_
        ·
          obtain ⟨rfl, rfl⟩ := hR40
          refine ⟨⟨rfl, trivial⟩, ?_⟩
          rw [hp1, hp2]
          refine (AH_take 6 rfl (by kernel_rfl) (by kernel_rfl) (by kernel_rfl) rfl rfl (by decide) (Pu_un rfl rfl (run_not _)) (AH_done (by kernel_rfl) (X_then ?_)))
          refine W_false rfl (rfl) ?_
          refine W_skip (X_then ?_)
          refine W_seq ?_
          refine W.pre (K' := [(0, _), (1, _), (5, _), (7, _), (8, _), (9, _), (10, _), (26, _), (41, _)]) (L' := [(0, _), (2, _), (401, _), (600, _)]) ?_ ⟨rfl, ⟨rfl, ⟨rfl, ⟨rfl, ⟨rfl, ⟨rfl, ⟨rfl, ⟨rfl, ⟨rfl, trivial⟩⟩⟩⟩⟩⟩⟩⟩⟩ ⟨rfl, ⟨rfl, ⟨rfl, ⟨rfl, trivial⟩⟩⟩⟩
          refine W_regL (WL_pure rfl rfl (by decide) (Pu_move rfl rfl) (WL_pure rfl rfl (by decide) (Pu_move rfl rfl) (WL_cons rfl rfl (by decide) (OpT_buildOnes (r := 601) (is [n]) rfl rfl Try.runUnderlying40 Try.sizeOf3 Try.zeroValue3 rfl rfl (by decide) rfl (by simp [is, Value.cells]) (fun v44 => (WL_cons rfl rfl (by decide) (OpT_append (r := 2) (r2 := 601) rfl Try.underlying40 TI.hi3 TI.hz3 TI.hs3 TI.hby3 TI.hzs3 (by decide) rfl rfl rfl rfl (fun _ h => rowP_rd h) (is_one _) (by unfold maxLen; omega) (by omega) (fun v45 => ?_))))))))
          refine (WL_pure rfl rfl (by decide) (Pu_assign rfl rfl) (WL_nil (X_then ?_)))
          refine W.pre (K' := [(0, _), (1, _), (5, _), (7, _), (8, _), (9, _), (10, _), (26, _), (41, _)]) (L' := [(0, _), (2, _), (401, _), (600, _), (601, _)]) ?_ ⟨rfl, ⟨rfl, ⟨rfl, ⟨rfl, ⟨rfl, ⟨rfl, ⟨rfl, ⟨rfl, ⟨rfl, trivial⟩⟩⟩⟩⟩⟩⟩⟩⟩ ⟨rfl, ⟨rfl, ⟨rfl, ⟨rfl, ⟨rfl, trivial⟩⟩⟩⟩⟩
          refine W_regL (WL_pure rfl rfl (by decide) (Pu_move rfl rfl) (WL_pure rfl rfl (by decide) (Pu_move rfl rfl) (WL_pure rfl rfl (by decide) (Pu_bin rfl rfl rfl (run_add _ _ _ _ _ (by omega))) (WL_pure rfl rfl (by decide) (Pu_assign rfl rfl) (WL_nil (X_block (X_then ?_)))))))
          refine W.pre (K' := [(0, _), (1, _), (5, _), (7, _), (8, _), (9, _), (10, _), (26, _), (41, _)]) (L' := [(0, _), (2, _), (401, _), (600, _), (601, _)]) ?_ ⟨rfl, ⟨rfl, ⟨rfl, ⟨rfl, ⟨rfl, ⟨rfl, ⟨rfl, ⟨rfl, ⟨rfl, trivial⟩⟩⟩⟩⟩⟩⟩⟩⟩ ⟨rfl, ⟨rfl, ⟨rfl, ⟨rfl, ⟨rfl, trivial⟩⟩⟩⟩⟩
          refine W_regL (WL_pure rfl rfl (by decide) (Pu_move rfl rfl) (WL_pure rfl rfl (by decide) (Pu_bin rfl rfl rfl (run_add _ _ _ _ _ (by omega))) (WL_pure rfl rfl (by decide) (Pu_assign rfl rfl) (WL_nil ?_))))
          refine X_ren 600 300 rfl ?_
          exact X_round (v45, q.2 ++ [n]) ⟨fun y hy => by rcases List.mem_append.1 hy with h | h; exact hs y h; simp at h; rw [h]; exact hn, by simp; omega⟩ (by show 10 - (q.2 ++ [n]).length < 10 - q.2.length; simp; omega) ⟨rfl, rfl, rfl, rfl, lookV_eq rfl (int_eq (by rw [sumI_app])), lookV_eq rfl (int_eq (by simp)), trivial⟩ ⟨rfl, rfl, look_eq rfl (rowN_of (q.2 ++ [n]) (by simp) (by simp [is])), trivial⟩
        exact AHs_nil
      exact AHs_nil
    exact AHs_nil
  ·
    refine W_exit (X_then_exit (X_then_exit (X_block_exit (X_then ?_))))
    refine W_seq ?_
    refine W.pre (K' := [(0, _), (1, _), (5, _), (7, _), (8, _), (9, _), (26, _)]) (L' := [(0, _), (2, _), (300, _)]) ?_ ⟨rfl, ⟨rfl, ⟨rfl, ⟨rfl, ⟨rfl, ⟨rfl, ⟨rfl, trivial⟩⟩⟩⟩⟩⟩⟩ ⟨rfl, ⟨rfl, ⟨rfl, trivial⟩⟩⟩
    refine W_regL (WL_pure rfl rfl (by decide) (Pu_move rfl rfl) (WL_cons rfl rfl (by decide) (OpT_call 400 [0, 2, 300] [] rfl Try.call9 rfl rfl rfl (by decide) (by decide) (within_spec great0 100 (by omega) (by omega) _) (fun v50 Ps50 hR50 => ?_))))
    obtain ⟨rfl, rfl⟩ := hR50
    refine (WL_pure rfl rfl (by decide) (Pu_bin rfl rfl rfl (run_add _ _ _ _ _ (by omega))) ?_)
    obtain ⟨gr, hgr, hg1, hg2⟩ : ∃ g : Nat, 1 + great0 % 100 = (g : Int) ∧ 1 ≤ g ∧ g ≤ 100 := ⟨(1 + great0 % 100).toNat, by omega, by omega, by omega⟩
    rw [hgr]
    refine (WL_pure rfl rfl (by decide) (Pu_assign rfl rfl) (WL_nil (X_then ?_)))
    refine W_seq ?_
    refine W_seq ?_
    refine W.pre (K' := [(0, _), (1, _), (5, _), (7, _), (8, _), (9, _), (26, _)]) (L' := [(0, _), (2, _), (300, _)]) ?_ ⟨rfl, ⟨rfl, ⟨rfl, ⟨rfl, ⟨rfl, ⟨rfl, ⟨rfl, trivial⟩⟩⟩⟩⟩⟩⟩ ⟨rfl, ⟨rfl, ⟨rfl, trivial⟩⟩⟩
    refine W_draw (N := 6) (by kernel_rfl) rfl [(0, _)] ⟨rfl, trivial⟩ ?_
    refine (AH_take 0 rfl (by kernel_rfl) (by kernel_rfl) (by kernel_rfl) rfl rfl (by decide) (Pu_move rfl rfl) (AH_take 2 rfl (by kernel_rfl) (by kernel_rfl) (by kernel_rfl) rfl rfl (by decide) (Pu_move rfl rfl) (AH_ready [1, 3] (by kernel_rfl) (by decide) ?_)))
    refine AHs_cons rfl rfl rfl (by decide) (OpT_call 500 [0, 2, 300] [] rfl Try.call12 rfl rfl rfl (by decide) (by decide) (key_spec 11 _) (fun v53 Ps53 hR53 => ?_)) ?_
    ·
      obtain ⟨rfl, rfl⟩ := hR53
      refine ⟨⟨rfl, trivial⟩, ?_⟩
      refine (AH_ready [3] (by kernel_rfl) (by decide) ?_)
      refine AHs_cons rfl rfl rfl (by decide) (OpT_make (r := 501) (m := gr) rfl Try.underlying35 TI.hi5 TI.hz5 TI.hs5 rfl rfl (by rw [TI.hby5]; omega) (by unfold maxLen; omega) ((made_one _ _).trans (made_bytes gr)) (fun v55 => ?_)) ?_
      ·
        refine ⟨⟨rfl, trivial⟩, ?_⟩
        refine (AH_ready [4] (by kernel_rfl) (by decide) ?_)
        refine AHs_cons rfl rfl rfl (by decide) (OpT_call 600 [0, 2, 501] [300] rfl Try.call11 rfl rfl rfl (by decide) (by decide) (put_spec gc 100 (pushFrom 0 q.2) (keyB 11) (keyB_length _) v55 (List.replicate gr 0) _ (rd_star 2 rfl (fun h hp => rdP_cast (rowP_rd hp) rfl (List.length_replicate).symm))) (fun v56 Ps56 hR56 => ?_)) ?_
        ·
          obtain ⟨rfl, rfl⟩ := hR56
          refine ⟨⟨rfl, trivial⟩, ?_⟩
          rw [push_ok hg1 hg2]
          refine (AH_take 5 rfl (by kernel_rfl) (by kernel_rfl) (by kernel_rfl) rfl rfl (by decide) (Pu_un rfl rfl (run_not _)) (AH_done (by kernel_rfl) (X_then ?_)))
          refine W_false rfl (rfl) ?_
          refine W_skip (X_then ?_)
          refine W_seq ?_
          refine W.pre (K' := [(0, _), (1, _), (5, _), (7, _), (8, _), (9, _), (26, _), (57, _)]) (L' := [(0, _), (2, _), (501, _), (600, _)]) ?_ ⟨rfl, ⟨rfl, ⟨rfl, ⟨rfl, ⟨rfl, ⟨rfl, ⟨rfl, ⟨rfl, trivial⟩⟩⟩⟩⟩⟩⟩⟩ ⟨rfl, ⟨rfl, ⟨rfl, ⟨rfl, trivial⟩⟩⟩⟩
          refine W_regL (WL_pure rfl rfl (by decide) (Pu_assign rfl rfl) (WL_nil (X_then ?_)))
          refine W_seq ?_
          refine W_block ?_
          refine W_loop (α := Nat) (fun g => [(1, .int .i64 (gr : Int)), (5, .pointer (some ⟨gc, 0, none⟩)), (7, q.1), (8, .int .i64 (sumI (q.2.drop g))), (11, .int .i64 (g : Int))]) (fun g => [(0, orig Wo), (600, cacheP gc 100 (putC 100 (pushFrom 0 q.2) (keyB 11) (List.replicate gr 0))), (2, rowP 3 1 q.1 q.2.length (is q.2))]) (fun g => g ≤ q.2.length ∧ ∀ j, j < g → 100 < sumI (q.2.drop j) + gr) (fun g => q.2.length - g) (0) ⟨Nat.zero_le _, fun j hj => by omega⟩ ⟨rfl, ⟨rfl, ⟨rfl, ⟨rfl, ⟨rfl, trivial⟩⟩⟩⟩⟩ ⟨rfl, ⟨rfl, ⟨rfl, trivial⟩⟩⟩ (fun x hx => ?_)
          obtain ⟨hxl, hj0⟩ := hx
          have hsd := sumI_le (q.2.drop x) (fun n hn => hs n (List.mem_of_mem_drop hn))
          have hdl : (q.2.drop x).length ≤ 10 := by rw [List.length_drop]; omega
          refine W_seq ?_
          refine W_seq ?_
          refine W.pre (K' := [(1, _), (5, _), (7, _), (8, _), (11, _)]) (L' := [(0, _), (2, _), (600, _)]) ?_ ⟨rfl, ⟨rfl, ⟨rfl, ⟨rfl, ⟨rfl, trivial⟩⟩⟩⟩⟩ ⟨rfl, ⟨rfl, ⟨rfl, trivial⟩⟩⟩
          refine W_regL (WL_pure rfl rfl (by decide) (Pu_move rfl rfl) (WL_pure rfl rfl (by decide) (Pu_move rfl rfl) (WL_pure rfl rfl (by decide) (Pu_len (r := 2) rfl Try.runUnderlying40 rfl rfl (fun _ h => rowP_rd h)) (WL_pure rfl rfl (by decide) (Pu_bin rfl rfl rfl (run_lss _ _ _ _ _ _)) (WL_pure rfl rfl (by decide) (Pu_move rfl rfl) (WL_guardP rfl rfl rfl rfl (by decide) (fun hb => (Pu_move rfl rfl)) (WL_guardP rfl rfl rfl rfl (by decide) (fun hb => (Pu_move rfl rfl)) (WL_guardP rfl rfl rfl rfl (by decide) (fun hb => (Pu_bin rfl (ev_gv rfl hb) (ev_gv rfl hb) (run_add _ _ _ _ _ (by omega)))) (WL_guardP rfl rfl rfl rfl (by decide) (fun hb => (Pu_bin rfl (ev_gv rfl hb) rfl (run_gtr _ _ _ _ _ _))) (WL_pure rfl rfl (by decide) (Pu_and rfl rfl rfl) (WL_nil (X_then ?_))))))))))))
          refine W_cond rfl (fun hc67 => ?_) (fun hc67 => ?_)
          ·
            have hb : x < q.2.length ∧ 100 < sumI (q.2.drop x) + gr := by simp at hc67; omega
            obtain ⟨hlt, hgt⟩ := hb
            have hd1 := sumI_drop hlt
            have hsd1 := sumI_le (q.2.drop (x + 1)) (fun n hn => hs n (List.mem_of_mem_drop hn))
            have hdl1 : (q.2.drop (x + 1)).length ≤ 10 := by rw [List.length_drop]; omega
            refine W_skip (X_then ?_)
            refine W_block ?_
            refine W_seq ?_
            refine W.pre (K' := [(1, _), (5, _), (7, _), (8, _), (11, _), (67, _)]) (L' := [(0, _), (2, _), (600, _)]) ?_ ⟨rfl, ⟨rfl, ⟨rfl, ⟨rfl, ⟨rfl, ⟨rfl, trivial⟩⟩⟩⟩⟩⟩ ⟨rfl, ⟨rfl, ⟨rfl, trivial⟩⟩⟩
            refine W_regL (WL_pure rfl rfl (by decide) (Pu_move rfl rfl) (WL_pure rfl rfl (by decide) (Pu_move rfl rfl) (WL_pure rfl rfl (by decide) (Pu_move rfl rfl) (WL_pure rfl rfl (by decide) (Pu_idxS1 (r := 2) rfl Try.runUnderlying40 Try.sizeOf3 rfl rfl rfl (fun _ h => rowP_rd h) (by omega)) (WL_pure rfl rfl (by decide) (Pu_loadS (r := 2) rfl Try.isAgg3 rfl rfl (fun _ h => rowP_rd h) (is_at (k := x) hlt)) (WL_pure rfl rfl (by decide) (Pu_bin rfl rfl rfl (run_sub _ _ _ _ _ (by omega))) (WL_pure rfl rfl (by decide) (Pu_assign rfl rfl) (WL_nil (X_then ?_)))))))))
            refine W.pre (K' := [(1, _), (5, _), (7, _), (8, _), (11, _), (67, _)]) (L' := [(0, _), (2, _), (600, _)]) ?_ ⟨rfl, ⟨rfl, ⟨rfl, ⟨rfl, ⟨rfl, ⟨rfl, trivial⟩⟩⟩⟩⟩⟩ ⟨rfl, ⟨rfl, ⟨rfl, trivial⟩⟩⟩
            refine W_regL (WL_pure rfl rfl (by decide) (Pu_move rfl rfl) (WL_pure rfl rfl (by decide) (Pu_bin rfl rfl rfl (run_add _ _ _ _ _ (by omega))) (WL_pure rfl rfl (by decide) (Pu_assign rfl rfl) (WL_nil (X_block ?_)))))
            exact X_round (x + 1) ⟨by omega, fun j hj => by rcases Nat.lt_or_ge j x with h | h; exact hj0 j h; obtain rfl : j = x := (by omega); exact hgt⟩ (by show q.2.length - (x + 1) < q.2.length - x; omega) ⟨rfl, rfl, rfl, lookV_eq rfl (int_eq (by rw [sumI_drop hlt]; omega)), rfl, trivial⟩ ⟨rfl, rfl, rfl, trivial⟩
          ·
            have he : x = q.2.length ∨ sumI (q.2.drop x) + gr ≤ 100 := by
              rcases Nat.lt_or_ge x q.2.length with h | h
              · right; have h0 : decide ((x : Int) < (q.2.length : Int)) = true := decide_eq_true (by omega); rw [h0] at hc67; have := of_decide_eq_false hc67; omega
              · left; omega
            obtain ⟨hf1, hf2⟩ := push_facts (great := gr) hs hxl
            have hPL := push_last hs hns hg1 hg2 hxl hj0 he
            refine W_exit (X_then_exit (X_then_exit (X_block_exit (X_then ?_))))
            refine W_seq ?_
            refine W.pre (K' := [(1, _), (5, _), (7, _), (8, _), (11, _), (67, _)]) (L' := [(0, _), (2, _), (600, _)]) ?_ ⟨rfl, ⟨rfl, ⟨rfl, ⟨rfl, ⟨rfl, ⟨rfl, trivial⟩⟩⟩⟩⟩⟩ ⟨rfl, ⟨rfl, ⟨rfl, trivial⟩⟩⟩
            rw [hPL]
            refine W_regL (WL_pure rfl rfl (by decide) (Pu_move rfl rfl) (WL_cons rfl rfl (by decide) (OpT_call 700 [0, 2] [600] rfl Try.call14 rfl rfl rfl (by decide) (by decide) (keys_spec gc 100 (pushFrom x (q.2.drop x) ++ [(keyB 11, List.replicate gr 0)]) _) (fun v77 Ps77 hR77 => ?_))))
            subst hR77
            refine (WL_pure rfl rfl (by decide) (Pu_assign rfl rfl) (WL_nil (X_then ?_)))
            refine W_seq ?_
            refine W.pre (K' := [(1, _), (5, _), (7, _), (8, _), (11, _), (12, _), (67, _)]) (L' := [(0, _), (2, _), (700, _), (701, _)]) ?_ ⟨rfl, ⟨rfl, ⟨rfl, ⟨rfl, ⟨rfl, ⟨rfl, ⟨rfl, trivial⟩⟩⟩⟩⟩⟩⟩ ⟨rfl, ⟨rfl, ⟨rfl, ⟨rfl, trivial⟩⟩⟩⟩
            refine W_fact (r := 700) rfl (fun h hp => hp.1) (fun hgd => ?_)
            have hids : Ids (keys (pushFrom x (q.2.drop x) ++ [(keyB 11, List.replicate gr 0)])).reverse := fun y hy => hgd.ids y (List.mem_reverse.1 hy)
            rcases Bool.eq_false_or_eq_true (decide ((x : Int) = (q.2.length : Int))) with hsp22 | hsp22
            ·
              refine W_draw (N := 34) (by kernel_rfl) rfl [(0, _), (2, _), (701, _)] ⟨rfl, ⟨rfl, ⟨rfl, trivial⟩⟩⟩ ?_
              refine (AH_take 0 rfl (by kernel_rfl) (by kernel_rfl) (by kernel_rfl) rfl rfl (by decide) (Pu_move rfl rfl) (AH_take 2 rfl (by kernel_rfl) (by kernel_rfl) (by kernel_rfl) rfl rfl (by decide) (Pu_move rfl rfl) (AH_take 3 rfl (by kernel_rfl) (by kernel_rfl) (by kernel_rfl) rfl rfl (by decide) (Pu_move rfl rfl) (AH_take 4 rfl (by kernel_rfl) (by kernel_rfl) (by kernel_rfl) rfl rfl (by decide) (Pu_bin rfl rfl rfl (run_add _ _ _ _ _ (by omega))) (AH_ready [1] (by kernel_rfl) (by decide) ?_)))))
              refine AHs_cons rfl rfl rfl (by decide) (OpT_call 800 [0, 2, 701] [700] rfl Try.call13 rfl rfl rfl (by decide) (by decide) (total_spec gc 100 (pushFrom x (q.2.drop x) ++ [(keyB 11, List.replicate gr 0)]) _) (fun v79 Ps79 hR79 => ?_)) ?_
              ·
                obtain ⟨rfl, rfl⟩ := hR79
                refine ⟨⟨rfl, ⟨rfl, ⟨rfl, trivial⟩⟩⟩, ?_⟩
                refine (AH_take 5 rfl (by kernel_rfl) (by kernel_rfl) (by kernel_rfl) rfl rfl (by decide) (Pu_bin rfl rfl rfl (run_eql _ _ _ _ _ _)) (AH_take 6 rfl (by kernel_rfl) (by kernel_rfl) (by kernel_rfl) rfl rfl (by decide) (Pu_move rfl rfl) (AH_takeT 7 rfl (by kernel_rfl) (by kernel_rfl) (by kernel_rfl) rfl rfl rfl (by rw [hf1]; simp) rfl (by decide) (Pu_move rfl rfl) (AH_takeT 8 rfl (by kernel_rfl) (by kernel_rfl) (by kernel_rfl) rfl rfl rfl (by rw [hf1]; simp) rfl (by decide) (Pu_len (r := 701) rfl Try.runUnderlying37 rfl rfl rowI_rd) (AH_takeT 9 rfl (by kernel_rfl) (by kernel_rfl) (by kernel_rfl) rfl rfl rfl (by rw [hf1]; simp) rfl (by decide) (Pu_move rfl rfl) (AH_takeT 10 rfl (by kernel_rfl) (by kernel_rfl) (by kernel_rfl) rfl rfl rfl (by rw [hf1]; simp) rfl (by decide) (Pu_len (r := 2) rfl Try.runUnderlying40 rfl rfl (fun _ h => rowP_rd h)) (AH_takeT 11 rfl (by kernel_rfl) (by kernel_rfl) (by kernel_rfl) rfl rfl rfl (by rw [hf1]; simp) rfl (by decide) (Pu_move rfl rfl) (AH_takeT 12 rfl (by kernel_rfl) (by kernel_rfl) (by kernel_rfl) rfl rfl rfl (by rw [hf1]; simp) rfl (by decide) (Pu_bin rfl rfl rfl (run_sub _ _ _ _ _ (by omega))) (AH_takeT 13 rfl (by kernel_rfl) (by kernel_rfl) (by kernel_rfl) rfl rfl rfl (by rw [hf1]; simp) rfl (by decide) (Pu_bin rfl rfl rfl (run_add _ _ _ _ _ (by omega))) (AH_takeT 14 rfl (by kernel_rfl) (by kernel_rfl) (by kernel_rfl) rfl rfl rfl (by rw [hf1]; simp) rfl (by decide) (Pu_bin rfl rfl rfl (run_eql _ _ _ _ _ _)) (AH_take 15 rfl (by kernel_rfl) (by kernel_rfl) (by kernel_rfl) rfl rfl (by decide) (Pu_pickT rfl rfl (by rw [hf1]; simp) rfl) (AH_take 16 rfl (by kernel_rfl) (by kernel_rfl) (by kernel_rfl) rfl rfl (by decide) (Pu_move rfl rfl) (AH_takeT 17 rfl (by kernel_rfl) (by kernel_rfl) (by kernel_rfl) rfl rfl rfl (by rw [hf2]; simp; omega) rfl (by decide) (Pu_move rfl rfl) (AH_takeT 18 rfl (by kernel_rfl) (by kernel_rfl) (by kernel_rfl) rfl rfl rfl (by rw [hf2]; simp; omega) rfl (by decide) (Pu_move rfl rfl) (AH_takeT 19 rfl (by kernel_rfl) (by kernel_rfl) (by kernel_rfl) rfl rfl rfl (by rw [hf2]; simp; omega) rfl (by decide) (Pu_len (r := 2) rfl Try.runUnderlying40 rfl rfl (fun _ h => rowP_rd h)) (AH_takeT 20 rfl (by kernel_rfl) (by kernel_rfl) (by kernel_rfl) rfl rfl rfl (by rw [hf2]; simp; omega) rfl (by decide) (Pu_bin rfl rfl rfl (run_eql _ _ _ _ _ _)) (AH_takeT 21 rfl (by kernel_rfl) (by kernel_rfl) (by kernel_rfl) rfl rfl rfl (by rw [hf2]; simp; omega) rfl (by decide) (Pu_move rfl rfl) (AH_takeF 22 rfl (by kernel_rfl) (by kernel_rfl) (by kernel_rfl) rfl rfl rfl (by rw [hsp22]; rfl) rfl (by decide) (AH_takeF 23 rfl (by kernel_rfl) (by kernel_rfl) (by kernel_rfl) rfl rfl rfl (by rw [hsp22]; rfl) rfl (by decide) (AH_takeF 24 rfl (by kernel_rfl) (by kernel_rfl) (by kernel_rfl) rfl rfl rfl (by rw [hsp22]; rfl) rfl (by decide) (AH_takeF 25 rfl (by kernel_rfl) (by kernel_rfl) (by kernel_rfl) rfl rfl rfl (by rw [hsp22]; rfl) rfl (by decide) (AH_takeF 26 rfl (by kernel_rfl) (by kernel_rfl) (by kernel_rfl) rfl rfl rfl (by rw [hsp22]; rfl) rfl (by decide) (AH_takeF 27 rfl (by kernel_rfl) (by kernel_rfl) (by kernel_rfl) rfl rfl rfl (by rw [hsp22]; rfl) rfl (by decide) (AH_takeF 28 rfl (by kernel_rfl) (by kernel_rfl) (by kernel_rfl) rfl rfl rfl (by rw [hsp22]; rfl) rfl (by decide) (AH_ready [29] (by kernel_rfl) (by decide) ?_)))))))))))))))))))))))))
                refine AHs_gF rfl rfl rfl rfl (by rw [hsp22]; rfl) rfl (by decide) ?_ ?_
                ·
                  refine (AH_takeF 30 rfl (by kernel_rfl) (by kernel_rfl) (by kernel_rfl) rfl rfl rfl (by rw [hsp22]; rfl) rfl (by decide) (AH_takeT 31 rfl (by kernel_rfl) (by kernel_rfl) (by kernel_rfl) rfl rfl rfl (by rw [hf2]; simp; omega) rfl (by decide) (Pu_pickT rfl rfl hsp22 rfl) (AH_take 32 rfl (by kernel_rfl) (by kernel_rfl) (by kernel_rfl) rfl rfl (by decide) (Pu_pickT rfl rfl (by rw [hf2]; simp; omega) rfl) (AH_take 33 rfl (by kernel_rfl) (by kernel_rfl) (by kernel_rfl) rfl rfl (by decide) (Pu_assign rfl rfl) (AH_done (by kernel_rfl) (X_then ?_))))))
                  refine W_ret ?_
                  exact X_ret [] (Ps := []) (res1 Try.results4 rfl) rfl (by decide) rfl
                exact AHs_nil
              exact AHs_nil
            ·
              have hlt : x < q.2.length := by have := of_decide_eq_false hsp22; omega
              have hpf := push_first (great := gr) hlt
              have hk3 : ((keys (pushFrom x (q.2.drop x) ++ [(keyB 11, List.replicate gr 0)])).reverse.getD (q.2.length - x) []).length = 32 := by rw [hpf]; exact keyB_length _
              have hix : (((keys (pushFrom x (q.2.drop x) ++ [(keyB 11, List.replicate gr 0)])).reverse.length : Int) - 1).toNat = q.2.length - x := by omega
              refine W_draw (N := 34) (by kernel_rfl) rfl [(0, _), (2, _), (701, _)] ⟨rfl, ⟨rfl, ⟨rfl, trivial⟩⟩⟩ ?_
              refine (AH_take 0 rfl (by kernel_rfl) (by kernel_rfl) (by kernel_rfl) rfl rfl (by decide) (Pu_move rfl rfl) (AH_take 2 rfl (by kernel_rfl) (by kernel_rfl) (by kernel_rfl) rfl rfl (by decide) (Pu_move rfl rfl) (AH_take 3 rfl (by kernel_rfl) (by kernel_rfl) (by kernel_rfl) rfl rfl (by decide) (Pu_move rfl rfl) (AH_take 4 rfl (by kernel_rfl) (by kernel_rfl) (by kernel_rfl) rfl rfl (by decide) (Pu_bin rfl rfl rfl (run_add _ _ _ _ _ (by omega))) (AH_ready [1] (by kernel_rfl) (by decide) ?_)))))
              refine AHs_cons rfl rfl rfl (by decide) (OpT_call 800 [0, 2, 701] [700] rfl Try.call13 rfl rfl rfl (by decide) (by decide) (total_spec gc 100 (pushFrom x (q.2.drop x) ++ [(keyB 11, List.replicate gr 0)]) _) (fun v79 Ps79 hR79 => ?_)) ?_
              ·
                obtain ⟨rfl, rfl⟩ := hR79
                refine ⟨⟨rfl, ⟨rfl, ⟨rfl, trivial⟩⟩⟩, ?_⟩
                refine (AH_take 5 rfl (by kernel_rfl) (by kernel_rfl) (by kernel_rfl) rfl rfl (by decide) (Pu_bin rfl rfl rfl (run_eql _ _ _ _ _ _)) (AH_take 6 rfl (by kernel_rfl) (by kernel_rfl) (by kernel_rfl) rfl rfl (by decide) (Pu_move rfl rfl) (AH_takeT 7 rfl (by kernel_rfl) (by kernel_rfl) (by kernel_rfl) rfl rfl rfl (by rw [hf1]; simp) rfl (by decide) (Pu_move rfl rfl) (AH_takeT 8 rfl (by kernel_rfl) (by kernel_rfl) (by kernel_rfl) rfl rfl rfl (by rw [hf1]; simp) rfl (by decide) (Pu_len (r := 701) rfl Try.runUnderlying37 rfl rfl rowI_rd) (AH_takeT 9 rfl (by kernel_rfl) (by kernel_rfl) (by kernel_rfl) rfl rfl rfl (by rw [hf1]; simp) rfl (by decide) (Pu_move rfl rfl) (AH_takeT 10 rfl (by kernel_rfl) (by kernel_rfl) (by kernel_rfl) rfl rfl rfl (by rw [hf1]; simp) rfl (by decide) (Pu_len (r := 2) rfl Try.runUnderlying40 rfl rfl (fun _ h => rowP_rd h)) (AH_takeT 11 rfl (by kernel_rfl) (by kernel_rfl) (by kernel_rfl) rfl rfl rfl (by rw [hf1]; simp) rfl (by decide) (Pu_move rfl rfl) (AH_takeT 12 rfl (by kernel_rfl) (by kernel_rfl) (by kernel_rfl) rfl rfl rfl (by rw [hf1]; simp) rfl (by decide) (Pu_bin rfl rfl rfl (run_sub _ _ _ _ _ (by omega))) (AH_takeT 13 rfl (by kernel_rfl) (by kernel_rfl) (by kernel_rfl) rfl rfl rfl (by rw [hf1]; simp) rfl (by decide) (Pu_bin rfl rfl rfl (run_add _ _ _ _ _ (by omega))) (AH_takeT 14 rfl (by kernel_rfl) (by kernel_rfl) (by kernel_rfl) rfl rfl rfl (by rw [hf1]; simp) rfl (by decide) (Pu_bin rfl rfl rfl (run_eql _ _ _ _ _ _)) (AH_take 15 rfl (by kernel_rfl) (by kernel_rfl) (by kernel_rfl) rfl rfl (by decide) (Pu_pickT rfl rfl (by rw [hf1]; simp) rfl) (AH_take 16 rfl (by kernel_rfl) (by kernel_rfl) (by kernel_rfl) rfl rfl (by decide) (Pu_move rfl rfl) (AH_takeT 17 rfl (by kernel_rfl) (by kernel_rfl) (by kernel_rfl) rfl rfl rfl (by rw [hf2]; simp; omega) rfl (by decide) (Pu_move rfl rfl) (AH_takeT 18 rfl (by kernel_rfl) (by kernel_rfl) (by kernel_rfl) rfl rfl rfl (by rw [hf2]; simp; omega) rfl (by decide) (Pu_move rfl rfl) (AH_takeT 19 rfl (by kernel_rfl) (by kernel_rfl) (by kernel_rfl) rfl rfl rfl (by rw [hf2]; simp; omega) rfl (by decide) (Pu_len (r := 2) rfl Try.runUnderlying40 rfl rfl (fun _ h => rowP_rd h)) (AH_takeT 20 rfl (by kernel_rfl) (by kernel_rfl) (by kernel_rfl) rfl rfl rfl (by rw [hf2]; simp; omega) rfl (by decide) (Pu_bin rfl rfl rfl (run_eql _ _ _ _ _ _)) (AH_takeT 21 rfl (by kernel_rfl) (by kernel_rfl) (by kernel_rfl) rfl rfl rfl (by rw [hf2]; simp; omega) rfl (by decide) (Pu_move rfl rfl) (AH_takeT 22 rfl (by kernel_rfl) (by kernel_rfl) (by kernel_rfl) rfl rfl rfl (by rw [hsp22]; rfl) rfl (by decide) (Pu_move rfl rfl) (AH_takeT 23 rfl (by kernel_rfl) (by kernel_rfl) (by kernel_rfl) rfl rfl rfl (by rw [hsp22]; rfl) rfl (by decide) (Pu_move rfl rfl) (AH_takeT 24 rfl (by kernel_rfl) (by kernel_rfl) (by kernel_rfl) rfl rfl rfl (by rw [hsp22]; rfl) rfl (by decide) (Pu_len (r := 701) rfl Try.runUnderlying37 rfl rfl rowI_rd) (AH_takeT 25 rfl (by kernel_rfl) (by kernel_rfl) (by kernel_rfl) rfl rfl rfl (by rw [hsp22]; rfl) rfl (by decide) (Pu_bin rfl rfl rfl (run_sub _ _ _ _ _ (by omega))) (AH_takeT 26 rfl (by kernel_rfl) (by kernel_rfl) (by kernel_rfl) rfl rfl rfl (by rw [hsp22]; rfl) rfl (by decide) (Pu_idxS (r := 701) rfl Try.runUnderlying37 Try.sizeOf33 rfl rfl rfl rowI_rd (by omega)) (AH_takeT 27 rfl (by kernel_rfl) (by kernel_rfl) (by kernel_rfl) rfl rfl rfl (by rw [hsp22]; rfl) rfl (by decide) (Pu_loadSN (r := 701) rfl Try.isAgg33 Try.sizeOf33 rfl rfl rowI_rd ((bs_length _).trans hk3) (by decide) (by rw [hix]; exact idsC_get (k := q.2.length - x) hids (by omega))) (AH_takeT 28 rfl (by kernel_rfl) (by kernel_rfl) (by kernel_rfl) rfl rfl rfl (by rw [hsp22]; rfl) rfl (by decide) (Pu_move rfl rfl) (AH_ready [29] (by kernel_rfl) (by decide) ?_)))))))))))))))))))))))))
                refine AHs_gT rfl rfl rfl rfl (by rw [hsp22]; rfl) rfl (by decide) (OpT_call 900 [0, 2, 701, 800] [] rfl Try.call12 rfl rfl rfl (by decide) (by decide) (key_spec (x : Int) _) (fun v107 Ps107 hR107 => ?_)) ?_
                ·
                  obtain ⟨rfl, rfl⟩ := hR107
                  refine ⟨⟨rfl, ⟨rfl, ⟨rfl, trivial⟩⟩⟩, ?_⟩
                  refine (AH_takeT 30 rfl (by kernel_rfl) (by kernel_rfl) (by kernel_rfl) rfl rfl rfl (by rw [hsp22]; rfl) rfl (by decide) (Pu_bin rfl rfl rfl (run_idEq _ _ hk3 (keyB_length _) _ _)) (AH_takeT 31 rfl (by kernel_rfl) (by kernel_rfl) (by kernel_rfl) rfl rfl rfl (by rw [hf2]; simp; omega) rfl (by decide) (Pu_pickF rfl rfl hsp22 rfl) (AH_take 32 rfl (by kernel_rfl) (by kernel_rfl) (by kernel_rfl) rfl rfl (by decide) (Pu_pickT rfl rfl (by rw [hf2]; simp; omega) rfl) (AH_take 33 rfl (by kernel_rfl) (by kernel_rfl) (by kernel_rfl) rfl rfl (by decide) (Pu_assign rfl rfl) (AH_done (by kernel_rfl) (X_then ?_))))))
                  refine W_ret ?_
                  exact X_ret [] (Ps := []) (res1 Try.results4 rfl) rfl (by decide) (bool_val12 (by rw [hpf]; simp))
                exact AHs_nil
              exact AHs_nil
        exact AHs_nil
      exact AHs_nil
    refine AHs_cons rfl rfl rfl (by decide) (OpT_make (r := 401) (m := gr) rfl Try.underlying35 TI.hi5 TI.hz5 TI.hs5 rfl rfl (by rw [TI.hby5]; omega) (by unfold maxLen; omega) ((made_one _ _).trans (made_bytes gr)) (fun v55 => ?_)) ?_
    ·
      refine ⟨⟨rfl, trivial⟩, ?_⟩
      refine (AH_ready [1] (by kernel_rfl) (by decide) ?_)
      refine AHs_cons rfl rfl rfl (by decide) (OpT_call 500 [0, 2, 300, 401] [] rfl Try.call12 rfl rfl rfl (by decide) (by decide) (key_spec 11 _) (fun v53 Ps53 hR53 => ?_)) ?_
      ·
        obtain ⟨rfl, rfl⟩ := hR53
        refine ⟨⟨rfl, trivial⟩, ?_⟩
        refine (AH_ready [4] (by kernel_rfl) (by decide) ?_)
        refine AHs_cons rfl rfl rfl (by decide) (OpT_call 600 [0, 2, 401] [300] rfl Try.call11 rfl rfl rfl (by decide) (by decide) (put_spec gc 100 (pushFrom 0 q.2) (keyB 11) (keyB_length _) v55 (List.replicate gr 0) _ (rd_star 2 rfl (fun h hp => rdP_cast (rowP_rd hp) rfl (List.length_replicate).symm))) (fun v56 Ps56 hR56 => ?_)) ?_
        ·
          obtain ⟨rfl, rfl⟩ := hR56
          refine ⟨⟨rfl, trivial⟩, ?_⟩
          rw [push_ok hg1 hg2]
          refine (AH_take 5 rfl (by kernel_rfl) (by kernel_rfl) (by kernel_rfl) rfl rfl (by decide) (Pu_un rfl rfl (run_not _)) (AH_done (by kernel_rfl) (X_then ?_)))
          refine W_false rfl (rfl) ?_
          refine W_skip (X_then ?_)
          refine W_seq ?_
          refine W.pre (K' := [(0, _), (1, _), (5, _), (7, _), (8, _), (9, _), (26, _), (57, _)]) (L' := [(0, _), (2, _), (401, _), (600, _)]) ?_ ⟨rfl, ⟨rfl, ⟨rfl, ⟨rfl, ⟨rfl, ⟨rfl, ⟨rfl, ⟨rfl, trivial⟩⟩⟩⟩⟩⟩⟩⟩ ⟨rfl, ⟨rfl, ⟨rfl, ⟨rfl, trivial⟩⟩⟩⟩
          refine W_regL (WL_pure rfl rfl (by decide) (Pu_assign rfl rfl) (WL_nil (X_then ?_)))
          refine W_seq ?_
          refine W_block ?_
          refine W_loop (α := Nat) (fun g => [(1, .int .i64 (gr : Int)), (5, .pointer (some ⟨gc, 0, none⟩)), (7, q.1), (8, .int .i64 (sumI (q.2.drop g))), (11, .int .i64 (g : Int))]) (fun g => [(0, orig Wo), (600, cacheP gc 100 (putC 100 (pushFrom 0 q.2) (keyB 11) (List.replicate gr 0))), (2, rowP 3 1 q.1 q.2.length (is q.2))]) (fun g => g ≤ q.2.length ∧ ∀ j, j < g → 100 < sumI (q.2.drop j) + gr) (fun g => q.2.length - g) (0) ⟨Nat.zero_le _, fun j hj => by omega⟩ ⟨rfl, ⟨rfl, ⟨rfl, ⟨rfl, ⟨rfl, trivial⟩⟩⟩⟩⟩ ⟨rfl, ⟨rfl, ⟨rfl, trivial⟩⟩⟩ (fun x hx => ?_)
          obtain ⟨hxl, hj0⟩ := hx
          have hsd := sumI_le (q.2.drop x) (fun n hn => hs n (List.mem_of_mem_drop hn))
          have hdl : (q.2.drop x).length ≤ 10 := by rw [List.length_drop]; omega
          refine W_seq ?_
          refine W_seq ?_
          refine W.pre (K' := [(1, _), (5, _), (7, _), (8, _), (11, _)]) (L' := [(0, _), (2, _), (600, _)]) ?_ ⟨rfl, ⟨rfl, ⟨rfl, ⟨rfl, ⟨rfl, trivial⟩⟩⟩⟩⟩ ⟨rfl, ⟨rfl, ⟨rfl, trivial⟩⟩⟩
          refine W_regL (WL_pure rfl rfl (by decide) (Pu_move rfl rfl) (WL_pure rfl rfl (by decide) (Pu_move rfl rfl) (WL_pure rfl rfl (by decide) (Pu_len (r := 2) rfl Try.runUnderlying40 rfl rfl (fun _ h => rowP_rd h)) (WL_pure rfl rfl (by decide) (Pu_bin rfl rfl rfl (run_lss _ _ _ _ _ _)) (WL_pure rfl rfl (by decide) (Pu_move rfl rfl) (WL_guardP rfl rfl rfl rfl (by decide) (fun hb => (Pu_move rfl rfl)) (WL_guardP rfl rfl rfl rfl (by decide) (fun hb => (Pu_move rfl rfl)) (WL_guardP rfl rfl rfl rfl (by decide) (fun hb => (Pu_bin rfl (ev_gv rfl hb) (ev_gv rfl hb) (run_add _ _ _ _ _ (by omega)))) (WL_guardP rfl rfl rfl rfl (by decide) (fun hb => (Pu_bin rfl (ev_gv rfl hb) rfl (run_gtr _ _ _ _ _ _))) (WL_pure rfl rfl (by decide) (Pu_and rfl rfl rfl) (WL_nil (X_then ?_))))))))))))
          refine W_cond rfl (fun hc67 => ?_) (fun hc67 => ?_)
          ·
            have hb : x < q.2.length ∧ 100 < sumI (q.2.drop x) + gr := by simp at hc67; omega
            obtain ⟨hlt, hgt⟩ := hb
            have hd1 := sumI_drop hlt
            have hsd1 := sumI_le (q.2.drop (x + 1)) (fun n hn => hs n (List.mem_of_mem_drop hn))
            have hdl1 : (q.2.drop (x + 1)).length ≤ 10 := by rw [List.length_drop]; omega
            refine W_skip (X_then ?_)
            refine W_block ?_
            refine W_seq ?_
            refine W.pre (K' := [(1, _), (5, _), (7, _), (8, _), (11, _), (67, _)]) (L' := [(0, _), (2, _), (600, _)]) ?_ ⟨rfl, ⟨rfl, ⟨rfl, ⟨rfl, ⟨rfl, ⟨rfl, trivial⟩⟩⟩⟩⟩⟩ ⟨rfl, ⟨rfl, ⟨rfl, trivial⟩⟩⟩
            refine W_regL (WL_pure rfl rfl (by decide) (Pu_move rfl rfl) (WL_pure rfl rfl (by decide) (Pu_move rfl rfl) (WL_pure rfl rfl (by decide) (Pu_move rfl rfl) (WL_pure rfl rfl (by decide) (Pu_idxS1 (r := 2) rfl Try.runUnderlying40 Try.sizeOf3 rfl rfl rfl (fun _ h => rowP_rd h) (by omega)) (WL_pure rfl rfl (by decide) (Pu_loadS (r := 2) rfl Try.isAgg3 rfl rfl (fun _ h => rowP_rd h) (is_at (k := x) hlt)) (WL_pure rfl rfl (by decide) (Pu_bin rfl rfl rfl (run_sub _ _ _ _ _ (by omega))) (WL_pure rfl rfl (by decide) (Pu_assign rfl rfl) (WL_nil (X_then ?_)))))))))
            refine W.pre (K' := [(1, _), (5, _), (7, _), (8, _), (11, _), (67, _)]) (L' := [(0, _), (2, _), (600, _)]) ?_ ⟨rfl, ⟨rfl, ⟨rfl, ⟨rfl, ⟨rfl, ⟨rfl, trivial⟩⟩⟩⟩⟩⟩ ⟨rfl, ⟨rfl, ⟨rfl, trivial⟩⟩⟩
            refine W_regL (WL_pure rfl rfl (by decide) (Pu_move rfl rfl) (WL_pure rfl rfl (by decide) (Pu_bin rfl rfl rfl (run_add _ _ _ _ _ (by omega))) (WL_pure rfl rfl (by decide) (Pu_assign rfl rfl) (WL_nil (X_block ?_)))))
            exact X_round (x + 1) ⟨by omega, fun j hj => by rcases Nat.lt_or_ge j x with h | h; exact hj0 j h; obtain rfl : j = x := (by omega); exact hgt⟩ (by show q.2.length - (x + 1) < q.2.length - x; omega) ⟨rfl, rfl, rfl, lookV_eq rfl (int_eq (by rw [sumI_drop hlt]; omega)), rfl, trivial⟩ ⟨rfl, rfl, rfl, trivial⟩
          ·
            have he : x = q.2.length ∨ sumI (q.2.drop x) + gr ≤ 100 := by
              rcases Nat.lt_or_ge x q.2.length with h | h
              · right; have h0 : decide ((x : Int) < (q.2.length : Int)) = true := decide_eq_true (by omega); rw [h0] at hc67; have := of_decide_eq_false hc67; omega
              · left; omega
            obtain ⟨hf1, hf2⟩ := push_facts (great := gr) hs hxl
            have hPL := push_last hs hns hg1 hg2 hxl hj0 he
            refine W_exit (X_then_exit (X_then_exit (X_block_exit (X_then ?_))))
            refine W_seq ?_
            refine W.pre (K' := [(1, _), (5, _), (7, _), (8, _), (11, _), (67, _)]) (L' := [(0, _), (2, _), (600, _)]) ?_ ⟨rfl, ⟨rfl, ⟨rfl, ⟨rfl, ⟨rfl, ⟨rfl, trivial⟩⟩⟩⟩⟩⟩ ⟨rfl, ⟨rfl, ⟨rfl, trivial⟩⟩⟩
            rw [hPL]
            refine W_regL (WL_pure rfl rfl (by decide) (Pu_move rfl rfl) (WL_cons rfl rfl (by decide) (OpT_call 700 [0, 2] [600] rfl Try.call14 rfl rfl rfl (by decide) (by decide) (keys_spec gc 100 (pushFrom x (q.2.drop x) ++ [(keyB 11, List.replicate gr 0)]) _) (fun v77 Ps77 hR77 => ?_))))
            subst hR77
            refine (WL_pure rfl rfl (by decide) (Pu_assign rfl rfl) (WL_nil (X_then ?_)))
            refine W_seq ?_
            refine W.pre (K' := [(1, _), (5, _), (7, _), (8, _), (11, _), (12, _), (67, _)]) (L' := [(0, _), (2, _), (700, _), (701, _)]) ?_ ⟨rfl, ⟨rfl, ⟨rfl, ⟨rfl, ⟨rfl, ⟨rfl, ⟨rfl, trivial⟩⟩⟩⟩⟩⟩⟩ ⟨rfl, ⟨rfl, ⟨rfl, ⟨rfl, trivial⟩⟩⟩⟩
            refine W_fact (r := 700) rfl (fun h hp => hp.1) (fun hgd => ?_)
            have hids : Ids (keys (pushFrom x (q.2.drop x) ++ [(keyB 11, List.replicate gr 0)])).reverse := fun y hy => hgd.ids y (List.mem_reverse.1 hy)
            rcases Bool.eq_false_or_eq_true (decide ((x : Int) = (q.2.length : Int))) with hsp22 | hsp22
            ·
              refine W_draw (N := 34) (by kernel_rfl) rfl [(0, _), (2, _), (701, _)] ⟨rfl, ⟨rfl, ⟨rfl, trivial⟩⟩⟩ ?_
              refine (AH_take 0 rfl (by kernel_rfl) (by kernel_rfl) (by kernel_rfl) rfl rfl (by decide) (Pu_move rfl rfl) (AH_take 2 rfl (by kernel_rfl) (by kernel_rfl) (by kernel_rfl) rfl rfl (by decide) (Pu_move rfl rfl) (AH_take 3 rfl (by kernel_rfl) (by kernel_rfl) (by kernel_rfl) rfl rfl (by decide) (Pu_move rfl rfl) (AH_take 4 rfl (by kernel_rfl) (by kernel_rfl) (by kernel_rfl) rfl rfl (by decide) (Pu_bin rfl rfl rfl (run_add _ _ _ _ _ (by omega))) (AH_ready [1] (by kernel_rfl) (by decide) ?_)))))
              refine AHs_cons rfl rfl rfl (by decide) (OpT_call 800 [0, 2, 701] [700] rfl Try.call13 rfl rfl rfl (by decide) (by decide) (total_spec gc 100 (pushFrom x (q.2.drop x) ++ [(keyB 11, List.replicate gr 0)]) _) (fun v79 Ps79 hR79 => ?_)) ?_
              ·
                obtain ⟨rfl, rfl⟩ := hR79
                refine ⟨⟨rfl, ⟨rfl, ⟨rfl, trivial⟩⟩⟩, ?_⟩
                refine (AH_take 5 rfl (by kernel_rfl) (by kernel_rfl) (by kernel_rfl) rfl rfl (by decide) (Pu_bin rfl rfl rfl (run_eql _ _ _ _ _ _)) (AH_take 6 rfl (by kernel_rfl) (by kernel_rfl) (by kernel_rfl) rfl rfl (by decide) (Pu_move rfl rfl) (AH_takeT 7 rfl (by kernel_rfl) (by kernel_rfl) (by kernel_rfl) rfl rfl rfl (by rw [hf1]; simp) rfl (by decide) (Pu_move rfl rfl) (AH_takeT 8 rfl (by kernel_rfl) (by kernel_rfl) (by kernel_rfl) rfl rfl rfl (by rw [hf1]; simp) rfl (by decide) (Pu_len (r := 701) rfl Try.runUnderlying37 rfl rfl rowI_rd) (AH_takeT 9 rfl (by kernel_rfl) (by kernel_rfl) (by kernel_rfl) rfl rfl rfl (by rw [hf1]; simp) rfl (by decide) (Pu_move rfl rfl) (AH_takeT 10 rfl (by kernel_rfl) (by kernel_rfl) (by kernel_rfl) rfl rfl rfl (by rw [hf1]; simp) rfl (by decide) (Pu_len (r := 2) rfl Try.runUnderlying40 rfl rfl (fun _ h => rowP_rd h)) (AH_takeT 11 rfl (by kernel_rfl) (by kernel_rfl) (by kernel_rfl) rfl rfl rfl (by rw [hf1]; simp) rfl (by decide) (Pu_move rfl rfl) (AH_takeT 12 rfl (by kernel_rfl) (by kernel_rfl) (by kernel_rfl) rfl rfl rfl (by rw [hf1]; simp) rfl (by decide) (Pu_bin rfl rfl rfl (run_sub _ _ _ _ _ (by omega))) (AH_takeT 13 rfl (by kernel_rfl) (by kernel_rfl) (by kernel_rfl) rfl rfl rfl (by rw [hf1]; simp) rfl (by decide) (Pu_bin rfl rfl rfl (run_add _ _ _ _ _ (by omega))) (AH_takeT 14 rfl (by kernel_rfl) (by kernel_rfl) (by kernel_rfl) rfl rfl rfl (by rw [hf1]; simp) rfl (by decide) (Pu_bin rfl rfl rfl (run_eql _ _ _ _ _ _)) (AH_take 15 rfl (by kernel_rfl) (by kernel_rfl) (by kernel_rfl) rfl rfl (by decide) (Pu_pickT rfl rfl (by rw [hf1]; simp) rfl) (AH_take 16 rfl (by kernel_rfl) (by kernel_rfl) (by kernel_rfl) rfl rfl (by decide) (Pu_move rfl rfl) (AH_takeT 17 rfl (by kernel_rfl) (by kernel_rfl) (by kernel_rfl) rfl rfl rfl (by rw [hf2]; simp; omega) rfl (by decide) (Pu_move rfl rfl) (AH_takeT 18 rfl (by kernel_rfl) (by kernel_rfl) (by kernel_rfl) rfl rfl rfl (by rw [hf2]; simp; omega) rfl (by decide) (Pu_move rfl rfl) (AH_takeT 19 rfl (by kernel_rfl) (by kernel_rfl) (by kernel_rfl) rfl rfl rfl (by rw [hf2]; simp; omega) rfl (by decide) (Pu_len (r := 2) rfl Try.runUnderlying40 rfl rfl (fun _ h => rowP_rd h)) (AH_takeT 20 rfl (by kernel_rfl) (by kernel_rfl) (by kernel_rfl) rfl rfl rfl (by rw [hf2]; simp; omega) rfl (by decide) (Pu_bin rfl rfl rfl (run_eql _ _ _ _ _ _)) (AH_takeT 21 rfl (by kernel_rfl) (by kernel_rfl) (by kernel_rfl) rfl rfl rfl (by rw [hf2]; simp; omega) rfl (by decide) (Pu_move rfl rfl) (AH_takeF 22 rfl (by kernel_rfl) (by kernel_rfl) (by kernel_rfl) rfl rfl rfl (by rw [hsp22]; rfl) rfl (by decide) (AH_takeF 23 rfl (by kernel_rfl) (by kernel_rfl) (by kernel_rfl) rfl rfl rfl (by rw [hsp22]; rfl) rfl (by decide) (AH_takeF 24 rfl (by kernel_rfl) (by kernel_rfl) (by kernel_rfl) rfl rfl rfl (by rw [hsp22]; rfl) rfl (by decide) (AH_takeF 25 rfl (by kernel_rfl) (by kernel_rfl) (by kernel_rfl) rfl rfl rfl (by rw [hsp22]; rfl) rfl (by decide) (AH_takeF 26 rfl (by kernel_rfl) (by kernel_rfl) (by kernel_rfl) rfl rfl rfl (by rw [hsp22]; rfl) rfl (by decide) (AH_takeF 27 rfl (by kernel_rfl) (by kernel_rfl) (by kernel_rfl) rfl rfl rfl (by rw [hsp22]; rfl) rfl (by decide) (AH_takeF 28 rfl (by kernel_rfl) (by kernel_rfl) (by kernel_rfl) rfl rfl rfl (by rw [hsp22]; rfl) rfl (by decide) (AH_ready [29] (by kernel_rfl) (by decide) ?_)))))))))))))))))))))))))
                refine AHs_gF rfl rfl rfl rfl (by rw [hsp22]; rfl) rfl (by decide) ?_ ?_
                ·
                  refine (AH_takeF 30 rfl (by kernel_rfl) (by kernel_rfl) (by kernel_rfl) rfl rfl rfl (by rw [hsp22]; rfl) rfl (by decide) (AH_takeT 31 rfl (by kernel_rfl) (by kernel_rfl) (by kernel_rfl) rfl rfl rfl (by rw [hf2]; simp; omega) rfl (by decide) (Pu_pickT rfl rfl hsp22 rfl) (AH_take 32 rfl (by kernel_rfl) (by kernel_rfl) (by kernel_rfl) rfl rfl (by decide) (Pu_pickT rfl rfl (by rw [hf2]; simp; omega) rfl) (AH_take 33 rfl (by kernel_rfl) (by kernel_rfl) (by kernel_rfl) rfl rfl (by decide) (Pu_assign rfl rfl) (AH_done (by kernel_rfl) (X_then ?_))))))
                  refine W_ret ?_
                  exact X_ret [] (Ps := []) (res1 Try.results4 rfl) rfl (by decide) rfl
                exact AHs_nil
              exact AHs_nil
            ·
              have hlt : x < q.2.length := by have := of_decide_eq_false hsp22; omega
              have hpf := push_first (great := gr) hlt
              have hk3 : ((keys (pushFrom x (q.2.drop x) ++ [(keyB 11, List.replicate gr 0)])).reverse.getD (q.2.length - x) []).length = 32 := by rw [hpf]; exact keyB_length _
              have hix : (((keys (pushFrom x (q.2.drop x) ++ [(keyB 11, List.replicate gr 0)])).reverse.length : Int) - 1).toNat = q.2.length - x := by omega
              refine W_draw (N := 34) (by kernel_rfl) rfl [(0, _), (2, _), (701, _)] ⟨rfl, ⟨rfl, ⟨rfl, trivial⟩⟩⟩ ?_
              refine (AH_take 0 rfl (by kernel_rfl) (by kernel_rfl) (by kernel_rfl) rfl rfl (by decide) (Pu_move rfl rfl) (AH_take 2 rfl (by kernel_rfl) (by kernel_rfl) (by kernel_rfl) rfl rfl (by decide) (Pu_move rfl rfl) (AH_take 3 rfl (by kernel_rfl) (by kernel_rfl) (by kernel_rfl) rfl rfl (by decide) (Pu_move rfl rfl) (AH_take 4 rfl (by kernel_rfl) (by kernel_rfl) (by kernel_rfl) rfl rfl (by decide) (Pu_bin rfl rfl rfl (run_add _ _ _ _ _ (by omega))) (AH_ready [1] (by kernel_rfl) (by decide) ?_)))))
              refine AHs_cons rfl rfl rfl (by decide) (OpT_call 800 [0, 2, 701] [700] rfl Try.call13 rfl rfl rfl (by decide) (by decide) (total_spec gc 100 (pushFrom x (q.2.drop x) ++ [(keyB 11, List.replicate gr 0)]) _) (fun v79 Ps79 hR79 => ?_)) ?_
              ·
                obtain ⟨rfl, rfl⟩ := hR79
                refine ⟨⟨rfl, ⟨rfl, ⟨rfl, trivial⟩⟩⟩, ?_⟩
                refine (AH_take 5 rfl (by kernel_rfl) (by kernel_rfl) (by kernel_rfl) rfl rfl (by decide) (Pu_bin rfl rfl rfl (run_eql _ _ _ _ _ _)) (AH_take 6 rfl (by kernel_rfl) (by kernel_rfl) (by kernel_rfl) rfl rfl (by decide) (Pu_move rfl rfl) (AH_takeT 7 rfl (by kernel_rfl) (by kernel_rfl) (by kernel_rfl) rfl rfl rfl (by rw [hf1]; simp) rfl (by decide) (Pu_move rfl rfl) (AH_takeT 8 rfl (by kernel_rfl) (by kernel_rfl) (by kernel_rfl) rfl rfl rfl (by rw [hf1]; simp) rfl (by decide) (Pu_len (r := 701) rfl Try.runUnderlying37 rfl rfl rowI_rd) (AH_takeT 9 rfl (by kernel_rfl) (by kernel_rfl) (by kernel_rfl) rfl rfl rfl (by rw [hf1]; simp) rfl (by decide) (Pu_move rfl rfl) (AH_takeT 10 rfl (by kernel_rfl) (by kernel_rfl) (by kernel_rfl) rfl rfl rfl (by rw [hf1]; simp) rfl (by decide) (Pu_len (r := 2) rfl Try.runUnderlying40 rfl rfl (fun _ h => rowP_rd h)) (AH_takeT 11 rfl (by kernel_rfl) (by kernel_rfl) (by kernel_rfl) rfl rfl rfl (by rw [hf1]; simp) rfl (by decide) (Pu_move rfl rfl) (AH_takeT 12 rfl (by kernel_rfl) (by kernel_rfl) (by kernel_rfl) rfl rfl rfl (by rw [hf1]; simp) rfl (by decide) (Pu_bin rfl rfl rfl (run_sub _ _ _ _ _ (by omega))) (AH_takeT 13 rfl (by kernel_rfl) (by kernel_rfl) (by kernel_rfl) rfl rfl rfl (by rw [hf1]; simp) rfl (by decide) (Pu_bin rfl rfl rfl (run_add _ _ _ _ _ (by omega))) (AH_takeT 14 rfl (by kernel_rfl) (by kernel_rfl) (by kernel_rfl) rfl rfl rfl (by rw [hf1]; simp) rfl (by decide) (Pu_bin rfl rfl rfl (run_eql _ _ _ _ _ _)) (AH_take 15 rfl (by kernel_rfl) (by kernel_rfl) (by kernel_rfl) rfl rfl (by decide) (Pu_pickT rfl rfl (by rw [hf1]; simp) rfl) (AH_take 16 rfl (by kernel_rfl) (by kernel_rfl) (by kernel_rfl) rfl rfl (by decide) (Pu_move rfl rfl) (AH_takeT 17 rfl (by kernel_rfl) (by kernel_rfl) (by kernel_rfl) rfl rfl rfl (by rw [hf2]; simp; omega) rfl (by decide) (Pu_move rfl rfl) (AH_takeT 18 rfl (by kernel_rfl) (by kernel_rfl) (by kernel_rfl) rfl rfl rfl (by rw [hf2]; simp; omega) rfl (by decide) (Pu_move rfl rfl) (AH_takeT 19 rfl (by kernel_rfl) (by kernel_rfl) (by kernel_rfl) rfl rfl rfl (by rw [hf2]; simp; omega) rfl (by decide) (Pu_len (r := 2) rfl Try.runUnderlying40 rfl rfl (fun _ h => rowP_rd h)) (AH_takeT 20 rfl (by kernel_rfl) (by kernel_rfl) (by kernel_rfl) rfl rfl rfl (by rw [hf2]; simp; omega) rfl (by decide) (Pu_bin rfl rfl rfl (run_eql _ _ _ _ _ _)) (AH_takeT 21 rfl (by kernel_rfl) (by kernel_rfl) (by kernel_rfl) rfl rfl rfl (by rw [hf2]; simp; omega) rfl (by decide) (Pu_move rfl rfl) (AH_takeT 22 rfl (by kernel_rfl) (by kernel_rfl) (by kernel_rfl) rfl rfl rfl (by rw [hsp22]; rfl) rfl (by decide) (Pu_move rfl rfl) (AH_takeT 23 rfl (by kernel_rfl) (by kernel_rfl) (by kernel_rfl) rfl rfl rfl (by rw [hsp22]; rfl) rfl (by decide) (Pu_move rfl rfl) (AH_takeT 24 rfl (by kernel_rfl) (by kernel_rfl) (by kernel_rfl) rfl rfl rfl (by rw [hsp22]; rfl) rfl (by decide) (Pu_len (r := 701) rfl Try.runUnderlying37 rfl rfl rowI_rd) (AH_takeT 25 rfl (by kernel_rfl) (by kernel_rfl) (by kernel_rfl) rfl rfl rfl (by rw [hsp22]; rfl) rfl (by decide) (Pu_bin rfl rfl rfl (run_sub _ _ _ _ _ (by omega))) (AH_takeT 26 rfl (by kernel_rfl) (by kernel_rfl) (by kernel_rfl) rfl rfl rfl (by rw [hsp22]; rfl) rfl (by decide) (Pu_idxS (r := 701) rfl Try.runUnderlying37 Try.sizeOf33 rfl rfl rfl rowI_rd (by omega)) (AH_takeT 27 rfl (by kernel_rfl) (by kernel_rfl) (by kernel_rfl) rfl rfl rfl (by rw [hsp22]; rfl) rfl (by decide) (Pu_loadSN (r := 701) rfl Try.isAgg33 Try.sizeOf33 rfl rfl rowI_rd ((bs_length _).trans hk3) (by decide) (by rw [hix]; exact idsC_get (k := q.2.length - x) hids (by omega))) (AH_takeT 28 rfl (by kernel_rfl) (by kernel_rfl) (by kernel_rfl) rfl rfl rfl (by rw [hsp22]; rfl) rfl (by decide) (Pu_move rfl rfl) (AH_ready [29] (by kernel_rfl) (by decide) ?_)))))))))))))))))))))))))
                refine AHs_gT rfl rfl rfl rfl (by rw [hsp22]; rfl) rfl (by decide) (OpT_call 900 [0, 2, 701, 800] [] rfl Try.call12 rfl rfl rfl (by decide) (by decide) (key_spec (x : Int) _) (fun v107 Ps107 hR107 => ?_)) ?_
                ·
                  obtain ⟨rfl, rfl⟩ := hR107
                  refine ⟨⟨rfl, ⟨rfl, ⟨rfl, trivial⟩⟩⟩, ?_⟩
                  refine (AH_takeT 30 rfl (by kernel_rfl) (by kernel_rfl) (by kernel_rfl) rfl rfl rfl (by rw [hsp22]; rfl) rfl (by decide) (Pu_bin rfl rfl rfl (run_idEq _ _ hk3 (keyB_length _) _ _)) (AH_takeT 31 rfl (by kernel_rfl) (by kernel_rfl) (by kernel_rfl) rfl rfl rfl (by rw [hf2]; simp; omega) rfl (by decide) (Pu_pickF rfl rfl hsp22 rfl) (AH_take 32 rfl (by kernel_rfl) (by kernel_rfl) (by kernel_rfl) rfl rfl (by decide) (Pu_pickT rfl rfl (by rw [hf2]; simp; omega) rfl) (AH_take 33 rfl (by kernel_rfl) (by kernel_rfl) (by kernel_rfl) rfl rfl (by decide) (Pu_assign rfl rfl) (AH_done (by kernel_rfl) (X_then ?_))))))
                  refine W_ret ?_
                  exact X_ret [] (Ps := []) (res1 Try.results4 rfl) rfl (by decide) (bool_val12 (by rw [hpf]; simp))
                exact AHs_nil
              exact AHs_nil
        exact AHs_nil
      exact AHs_nil
    exact AHs_nil

theorem cachePushes_any (W : World) (v0 : Value) (l0 : List Int) (hr0 : RdI W v0 l0) (hz0 : I64 l0) (hl0 : l0.length ≤ maxLen) (a1 : Int) (lo1 : -9223372036854775808 ≤ a1) (hi1 : a1 ≤ 9223372036854775807) :
    Calls Try.prog 4 #[v0, .int .i64 a1] W fun e W' => e = .returned (.bool true) ∧ Chg [] W W' := calls_law (cachePushes_law W v0 l0 hr0 a1)
end Go.Proofs.Ytamhhkjddmjanaa
