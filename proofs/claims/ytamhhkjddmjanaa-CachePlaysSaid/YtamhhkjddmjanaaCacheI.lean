/- Caches by the document: made, told. -/
import Derived.Test.YtamhhkjddmjanaaCacheD
import Derived.Test.YtamhhkjddmjanaaCache5
namespace Go.Proofs.Ytamhhkjddmjanaa
open Go.RowKit
set_option linter.unusedVariables false
set_option linter.unusedSimpArgs false

theorem refTotal_spec (g room : Nat) (L : Ents) (F : HP) : CallsS Try.prog 19 #[.pointer (some ⟨g, 0, none⟩)] F [refP g room L] (fun r Ps => r = .int .i64 (total L : Int) ∧ Ps = [refP g room L]) := by
  refine callsS_enter Try.func19 rfl Try.ntmps19 (by simp) (fun E => ?_)
  refine W_seq ?_
  refine W.pre (K' := [(0, _)]) (L' := [(0, _), (1, _)]) ?_ ⟨rfl, trivial⟩ ⟨rfl, ⟨rfl, trivial⟩⟩
  refine W_openRef 1 200 rfl (fun v es hg hke h1e ho => ?_)
  have hlen := hg.len
  have hfit := hg.fits
  have hmost := hg.most
  rw [List.length_reverse] at hlen
  rw [total_reverse] at hfit
  have hids : Ids (es.map (·.1)) := fun y hy => hg.ids y (by rw [keys_reverse, ← hke]; exact List.mem_reverse.2 hy)
  have hel : es.length = L.length := by have := congrArg List.length hke; simpa [keys] using this
  refine W_regL (WL_pure rfl rfl (by decide) (Pu_assign rfl rfl) (WL_nil (X_then ?_)))
  refine W_seq ?_
  refine W.pre (K' := [(0, _), (2, _)]) (L' := [(0, _), (200, _), (201, _), (202, _)]) ?_ ⟨rfl, ⟨rfl, trivial⟩⟩ ⟨rfl, ⟨rfl, ⟨rfl, ⟨rfl, trivial⟩⟩⟩⟩
  refine W_regL (WL_pure rfl rfl (by decide) (Pu_assign rfl rfl) (WL_nil (X_then ?_)))
  refine W_seq ?_
  refine W_seq ?_
  refine W.pre (K' := [(0, _), (2, _), (3, _)]) (L' := [(0, _), (200, _), (201, _), (202, _)]) ?_ ⟨rfl, ⟨rfl, ⟨rfl, trivial⟩⟩⟩ ⟨rfl, ⟨rfl, ⟨rfl, ⟨rfl, trivial⟩⟩⟩⟩
  refine W_regL (WL_pure rfl rfl (by decide) (Pu_assign rfl rfl) (WL_nil (X_then ?_)))
  refine W_block ?_
  refine W_loop (α := Nat) (fun k => [(0, .pointer (some ⟨g, 0, none⟩)), (3, .int .i64 (total (L.take k) : Int)), (4, .int .i64 (k : Int))]) (fun k => [(0, F), (200, blk g 49 [.int .i64 (room : Int), v]), (201, rowP 51 33 v L.length (onesC es)), (202, dataR es L)]) (fun k => k ≤ L.length) (fun k => L.length - k) (0) (Nat.zero_le _) ⟨rfl, ⟨rfl, ⟨rfl, trivial⟩⟩⟩ ⟨rfl, ⟨rfl, ⟨rfl, ⟨rfl, trivial⟩⟩⟩⟩ (fun x hx => ?_)
  have htl := total_take_le L x
  refine W_seq ?_
  refine W_seq ?_
  refine W.pre (K' := [(0, _), (3, _), (4, _)]) (L' := [(0, _), (200, _), (201, _), (202, _)]) ?_ ⟨rfl, ⟨rfl, ⟨rfl, trivial⟩⟩⟩ ⟨rfl, ⟨rfl, ⟨rfl, ⟨rfl, trivial⟩⟩⟩⟩
  refine W_regL (WL_pure rfl rfl (by decide) (Pu_move rfl rfl) (WL_pure rfl rfl (by decide) (Pu_move rfl rfl) (WL_pure rfl rfl (by decide) (Pu_nilCheck rfl rfl) (WL_pure rfl rfl (by decide) (Pu_fieldAddrB (off := 1) rfl rfl (by kernel_rfl)) (WL_pure rfl rfl (by decide) (Pu_loadB (r := 200) rfl Try.isAgg47 rfl rfl rfl) (WL_pure rfl rfl (by decide) (Pu_len (r := 201) rfl Try.runUnderlying47 rfl rfl (fun _ h => rowP_rd h)) (WL_pure rfl rfl (by decide) (Pu_bin rfl rfl rfl (run_lss _ _ _ _ _ _)) (WL_nil (X_then ?_)))))))))
  refine W_cond rfl (fun hc11 => ?_) (fun hc11 => ?_)
  ·
    have hlt : x < L.length := by have := of_decide_eq_true hc11; omega
    obtain ⟨p, hp⟩ : ∃ p, es[x]? = some p := ⟨_, List.getElem?_eq_getElem (by omega)⟩
    obtain ⟨q, hq⟩ : ∃ q, L[x]? = some q := ⟨_, List.getElem?_eq_getElem (by omega)⟩
    obtain ⟨hp32, hp1, hp2, hp3⟩ := onesC_of hids hp
    have htq := total_take hq
    have htl2 := total_take_le L (x + 1)
    refine W_skip (X_then ?_)
    refine W_seq ?_
    refine W_block ?_
    refine W.pre (K' := [(0, _), (3, _), (4, _), (11, _)]) (L' := [(0, _), (200, _), (201, _), (202, _)]) ?_ ⟨rfl, ⟨rfl, ⟨rfl, ⟨rfl, trivial⟩⟩⟩⟩ ⟨rfl, ⟨rfl, ⟨rfl, ⟨rfl, trivial⟩⟩⟩⟩
    refine W_regL (WL_pure rfl rfl (by decide) (Pu_move rfl rfl) (WL_pure rfl rfl (by decide) (Pu_move rfl rfl) (WL_pure rfl rfl (by decide) (Pu_nilCheck rfl rfl) (WL_pure rfl rfl (by decide) (Pu_fieldAddrB (off := 1) rfl rfl (by kernel_rfl)) (WL_pure rfl rfl (by decide) (Pu_loadB (r := 200) rfl Try.isAgg47 rfl rfl rfl) (WL_pure rfl rfl (by decide) (Pu_move rfl rfl) (WL_pure rfl rfl (by decide) (Pu_idxS (r := 201) rfl Try.runUnderlying47 Try.sizeOf51 rfl rfl rfl (fun _ h => rowP_rd h) (by omega)) (WL_pure rfl rfl (by decide) (Pu_fieldAddrE (off := 32) rfl rfl (by kernel_rfl)) (WL_pure rfl rfl (by decide) (Pu_loadS (r := 201) rfl Try.isAgg35 rfl rfl (fun _ h => rowP_rd h) hp3) (WL_pure rfl rfl (by decide) (Pu_len (r := 202) rfl Try.runUnderlying35 rfl rfl (fun h hd => hd x p q hp hq)) (WL_pure rfl rfl (by decide) (Pu_bin rfl rfl rfl (run_add _ _ _ _ _ (by omega))) (WL_pure rfl rfl (by decide) (Pu_assign rfl rfl) (WL_nil (X_block (X_then ?_)))))))))))))))
    refine W.pre (K' := [(0, _), (3, _), (4, _), (11, _)]) (L' := [(0, _), (200, _), (201, _), (202, _)]) ?_ ⟨rfl, ⟨rfl, ⟨rfl, ⟨rfl, trivial⟩⟩⟩⟩ ⟨rfl, ⟨rfl, ⟨rfl, ⟨rfl, trivial⟩⟩⟩⟩
    refine W_regL (WL_pure rfl rfl (by decide) (Pu_move rfl rfl) (WL_pure rfl rfl (by decide) (Pu_bin rfl rfl rfl (run_add _ _ _ _ _ (by omega))) (WL_pure rfl rfl (by decide) (Pu_assign rfl rfl) (WL_nil ?_))))
    exact X_round (x + 1) (by omega) (by omega) ⟨rfl, lookV_eq rfl (int_eq (by rw [total_take hq]; omega)), rfl, trivial⟩ ⟨rfl, rfl, rfl, rfl, trivial⟩
  ·
    obtain rfl : x = L.length := by have := of_decide_eq_false hc11; omega
    refine W_exit (X_then_exit (X_then_exit (X_block_exit (X_then ?_))))
    refine W_seq ?_
    refine W.pre (K' := [(0, _), (3, _), (4, _), (11, _)]) (L' := [(0, _), (200, _), (201, _), (202, _)]) ?_ ⟨rfl, ⟨rfl, ⟨rfl, ⟨rfl, trivial⟩⟩⟩⟩ ⟨rfl, ⟨rfl, ⟨rfl, ⟨rfl, trivial⟩⟩⟩⟩
    refine W_regL (WL_pure rfl rfl (by decide) (Pu_move rfl rfl) (WL_pure rfl rfl (by decide) (Pu_assign rfl rfl) (WL_nil (X_then ?_))))
    refine W_ret ?_
    refine X_join [200, 201, 202] 1 (refP g room L) rfl (by decide) (fun h hs => closeRef hg hke h1e ho hs) ?_
    exact X_ret [1] (Ps := [_]) (res1 Try.results19 rfl) rfl (by decide) ⟨by rw [List.take_length], rfl⟩
theorem refNew_bad (n : Int) (hbad : (decide (n < 0) || decide (1073741824 < n)) = true) (F : HP) : CallsS Try.prog 15 #[.int .i64 n] F [] (fun r Ps => r = .tuple #[.pointer none, .int .i64 1] ∧ Ps = []) := by
  refine callsS_enter Try.func15 rfl Try.ntmps15 (by simp) (fun E => ?_)
  refine W_seq ?_
  refine W.pre (K' := [(0, _)]) (L' := [(0, _)]) ?_ ⟨rfl, trivial⟩ ⟨rfl, trivial⟩
  refine W_regL (WL_pure rfl rfl (by decide) (Pu_assign rfl rfl) (WL_pure rfl rfl (by decide) (Pu_assign rfl rfl) (WL_nil (X_then ?_))))
  refine W_seq ?_
  refine W_seq ?_
  refine W.pre (K' := [(0, _), (2, _), (3, _)]) (L' := [(0, _)]) ?_ ⟨rfl, ⟨rfl, ⟨rfl, trivial⟩⟩⟩ ⟨rfl, trivial⟩
  refine W_regL (WL_pure rfl rfl (by decide) (Pu_move rfl rfl) (WL_pure rfl rfl (by decide) (Pu_bin rfl rfl rfl (run_lss _ _ _ _ _ _)) (WL_pure rfl rfl (by decide) (Pu_move rfl rfl) (WL_guardP rfl rfl rfl rfl (by decide) (fun hb => (Pu_move rfl rfl)) (WL_guardP rfl rfl rfl rfl (by decide) (fun hb => (Pu_bin rfl (ev_gv rfl hb) rfl (run_gtr _ _ _ _ _ _))) (WL_pure rfl rfl (by decide) (Pu_or rfl rfl rfl) (WL_nil (X_then ?_))))))))
  refine W_true rfl (hbad) ?_
  refine W_seq ?_
  refine W.pre (K' := [(0, _), (2, _), (3, _), (9, _)]) (L' := [(0, _)]) ?_ ⟨rfl, ⟨rfl, ⟨rfl, ⟨rfl, trivial⟩⟩⟩⟩ ⟨rfl, trivial⟩
  refine W_regL (WL_pure rfl rfl (by decide) (Pu_assign rfl rfl) (WL_pure rfl rfl (by decide) (Pu_assign rfl rfl) (WL_nil (X_then ?_))))
  refine W_ret (X_then_ret ?_)
  exact X_ret [] (Ps := []) (res2 Try.results15 rfl rfl) rfl (by decide) ⟨rfl, rfl⟩
theorem refNew_good (room : Nat) (hm : room ≤ 1073741824) (F : HP) : CallsS Try.prog 15 #[.int .i64 (room : Int)] F [] (fun r Ps => ∃ g, r = .tuple #[.pointer (some ⟨g, 0, none⟩), .int .i64 0] ∧ Ps = [refP g room []]) := by
  refine callsS_enter Try.func15 rfl Try.ntmps15 (by simp) (fun E => ?_)
  refine W_seq ?_
  refine W.pre (K' := [(0, _)]) (L' := [(0, _)]) ?_ ⟨rfl, trivial⟩ ⟨rfl, trivial⟩
  refine W_regL (WL_pure rfl rfl (by decide) (Pu_assign rfl rfl) (WL_pure rfl rfl (by decide) (Pu_assign rfl rfl) (WL_nil (X_then ?_))))
  refine W_seq ?_
  refine W_seq ?_
  refine W.pre (K' := [(0, _), (2, _), (3, _)]) (L' := [(0, _)]) ?_ ⟨rfl, ⟨rfl, ⟨rfl, trivial⟩⟩⟩ ⟨rfl, trivial⟩
  refine W_regL (WL_pure rfl rfl (by decide) (Pu_move rfl rfl) (WL_pure rfl rfl (by decide) (Pu_bin rfl rfl rfl (run_lss _ _ _ _ _ _)) (WL_pure rfl rfl (by decide) (Pu_move rfl rfl) (WL_guardP rfl rfl rfl rfl (by decide) (fun hb => (Pu_move rfl rfl)) (WL_guardP rfl rfl rfl rfl (by decide) (fun hb => (Pu_bin rfl (ev_gv rfl hb) rfl (run_gtr _ _ _ _ _ _))) (WL_pure rfl rfl (by decide) (Pu_or rfl rfl rfl) (WL_nil (X_then ?_))))))))
  refine W_false rfl (by simp; omega) ?_
  refine W_skip (X_then ?_)
  refine W_seq ?_
  refine W.pre (K' := [(0, _), (2, _), (3, _), (9, _)]) (L' := [(0, _)]) ?_ ⟨rfl, ⟨rfl, ⟨rfl, ⟨rfl, trivial⟩⟩⟩⟩ ⟨rfl, trivial⟩
  refine W_regL (WL_pure rfl rfl (by decide) (Pu_move rfl rfl) (WL_pure rfl rfl (by decide) (Pu_build (V := .agg #[.int .i64 (room : Int), .slice none 0 0]) [(0, 1), (1, 1)] ([.int .i64 0, .slice none 0 0]) rfl rfl (by kernel_rfl) (by kernel_rfl) (.one rfl rfl (by simp []) rfl (.nil _)) rfl) (WL_cons rfl rfl (by decide) (OpT_box (r := 101) rfl rfl rfl (fun g101 => (WL_pure rfl rfl (by decide) (Pu_assign rfl rfl) (WL_pure rfl rfl (by decide) (Pu_assign rfl rfl) (WL_nil (X_then ?_)))))))))
  refine W_ret ?_
  refine X_nilRow 9900 51 33 ?_
  refine X_nilRow 9901 51 33 ?_
  refine X_turn (P' := dataR [] []) 9901 rfl (fun h hp j p q hm => by simp at hm) ?_
  refine X_join [101, 9900, 9901] 1 (refP g101 room []) rfl (by decide) (fun h hs => closeRef (v := .slice none 0 0) (es := []) ⟨by simp [keys], fun x hx => by simp [keys] at hx, Nat.zero_le _, hm, fun p hp => by simp at hp⟩ rfl (fun p hp => by simp at hp) rfl hs) ?_
  exact X_ret [1] (Ps := [_]) (res2 Try.results15 rfl rfl) rfl (by decide) ⟨_, rfl, rfl⟩
end Go.Proofs.Ytamhhkjddmjanaa
