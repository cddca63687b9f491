/- Caches: the law that plays against the document. -/
import Derived.Test.YtamhhkjddmjanaaCacheM
import Derived.Test.YtamhhkjddmjanaaCache8
import Derived.Test.YtamhhkjddmjanaaCacheK
import Derived.Test.YtamhhkjddmjanaaCacheL
import Derived.Test.YtamhhkjddmjanaaCacheF
namespace Go.Proofs.Ytamhhkjddmjanaa
open Go.RowKit
set_option linter.unusedVariables false
set_option linter.unusedSimpArgs false

theorem cachePlays_law (Wo : World) (room0 : Int) (vc : Value) (calls : List (Bool × Int × Int)) (hrc : Rd Wo 3 vc calls.length (callsC calls)) :
    CallsS Try.prog 5 #[.int .i64 room0, vc] (orig Wo) [] (fun v Ps => v = .bool true) := by
  refine callsS_enter Try.func5 rfl Try.ntmps5 (by simp) (fun E => ?_)
  refine W_seq ?_
  refine W.pre (K' := [(0, _), (1, _)]) (L' := [(0, _)]) ?_ ⟨rfl, ⟨rfl, trivial⟩⟩ ⟨rfl, trivial⟩
  refine W_regL (WL_pure rfl rfl (by decide) (Pu_assign rfl rfl) (WL_nil (X_then ?_)))
  refine W_seq ?_
  refine W_seq ?_
  refine W.pre (K' := [(0, _), (1, _), (4, _)]) (L' := [(0, _)]) ?_ ⟨rfl, ⟨rfl, ⟨rfl, trivial⟩⟩⟩ ⟨rfl, trivial⟩
  refine W_regL (WL_cons rfl rfl (by decide) (OpT_call 200 [0] [] rfl Try.call8 rfl rfl rfl (by decide) (by decide) (known_spec _) (fun v24 Ps24 hR24 => ?_)))
  obtain ⟨rfl, rfl⟩ := hR24
  refine (WL_pure rfl rfl (by decide) (Pu_un rfl rfl (run_not _)) (WL_nil (X_then ?_)))
  refine W_false rfl (rfl) ?_
  refine W_skip (X_then ?_)
  refine W_seq ?_
  refine W.pre (K' := [(0, _), (1, _), (4, _), (25, _)]) (L' := [(0, _)]) ?_ ⟨rfl, ⟨rfl, ⟨rfl, ⟨rfl, trivial⟩⟩⟩⟩ ⟨rfl, trivial⟩
  refine W_regL (WL_pure rfl rfl (by decide) (Pu_move rfl rfl) (WL_cons rfl rfl (by decide) (OpT_call 300 [0] [] rfl Try.call10 rfl rfl rfl (by decide) (by decide) (new_any room0 _) (fun v28 Ps28 hR28 => ?_))))
  obtain ⟨p0, X0, rfl, rfl⟩ := hR28
  refine (WL_pure rfl rfl (by decide) (Pu_move rfl rfl) (WL_pure rfl rfl (by decide) (Pu_extract rfl rfl rfl) (WL_pure rfl rfl (by decide) (Pu_extract rfl rfl rfl) (WL_pure rfl rfl (by decide) (Pu_assign rfl rfl) (WL_pure rfl rfl (by decide) (Pu_assign rfl rfl) (WL_nil (X_then ?_)))))))
  refine W_seq ?_
  refine W.pre (K' := [(0, _), (1, _), (4, _), (6, _), (25, _)]) (L' := [(0, _), (300, _)]) ?_ ⟨rfl, ⟨rfl, ⟨rfl, ⟨rfl, ⟨rfl, trivial⟩⟩⟩⟩⟩ ⟨rfl, ⟨rfl, trivial⟩⟩
  refine W_regL (WL_pure rfl rfl (by decide) (Pu_move rfl rfl) (WL_cons rfl rfl (by decide) (OpT_call 400 [0, 300] [] rfl Try.call15 rfl rfl rfl (by decide) (by decide) (refNew_any room0 _) (fun v33 Ps33 hR33 => ?_))))
  obtain ⟨p1, X1, rfl, rfl⟩ := hR33
  refine (WL_pure rfl rfl (by decide) (Pu_move rfl rfl) (WL_pure rfl rfl (by decide) (Pu_extract rfl rfl rfl) (WL_pure rfl rfl (by decide) (Pu_extract rfl rfl rfl) (WL_pure rfl rfl (by decide) (Pu_assign rfl rfl) (WL_pure rfl rfl (by decide) (Pu_assign rfl rfl) (WL_nil (X_then ?_)))))))
  refine W_seq ?_
  refine W_seq ?_
  refine W.pre (K' := [(0, _), (1, _), (4, _), (6, _), (8, _), (25, _)]) (L' := [(0, _), (300, _), (400, _)]) ?_ ⟨rfl, ⟨rfl, ⟨rfl, ⟨rfl, ⟨rfl, ⟨rfl, trivial⟩⟩⟩⟩⟩⟩ ⟨rfl, ⟨rfl, ⟨rfl, trivial⟩⟩⟩
  refine W_regL (WL_pure rfl rfl (by decide) (Pu_move rfl rfl) (WL_pure rfl rfl (by decide) (Pu_move rfl rfl) (WL_pure rfl rfl (by decide) (Pu_bin rfl rfl rfl (run_neq _ _ _ _ _ _)) (WL_nil (X_then ?_)))))
  refine W_false rfl (by simp) ?_
  refine W_skip (X_then ?_)
  refine W_seq ?_
  refine W.pre (K' := [(0, _), (1, _), (4, _), (6, _), (8, _), (25, _), (38, _)]) (L' := [(0, _), (300, _), (400, _)]) ?_ ⟨rfl, ⟨rfl, ⟨rfl, ⟨rfl, ⟨rfl, ⟨rfl, ⟨rfl, trivial⟩⟩⟩⟩⟩⟩⟩ ⟨rfl, ⟨rfl, ⟨rfl, trivial⟩⟩⟩
  refine W_regL (WL_pure rfl rfl (by decide) (Pu_move rfl rfl) (WL_cons rfl rfl (by decide) (OpT_call 500 [0, 300, 400] [] rfl Try.call9 rfl rfl rfl (by decide) (by decide) (within_spec room0 200 (by omega) (by omega) _) (fun v40 Ps40 hR40 => ?_))))
  obtain ⟨rfl, rfl⟩ := hR40
  obtain ⟨room, hroom, hroom2⟩ : ∃ n : Nat, room0 % 200 = (n : Int) ∧ n < 200 := ⟨(room0 % 200).toNat, by omega, by omega⟩
  rw [hroom]
  refine (WL_pure rfl rfl (by decide) (Pu_assign rfl rfl) (WL_nil (X_then ?_)))
  refine W_seq ?_
  refine W.pre (K' := [(0, _), (1, _), (4, _), (6, _), (8, _), (25, _), (38, _)]) (L' := [(0, _), (300, _), (400, _)]) ?_ ⟨rfl, ⟨rfl, ⟨rfl, ⟨rfl, ⟨rfl, ⟨rfl, ⟨rfl, trivial⟩⟩⟩⟩⟩⟩⟩ ⟨rfl, ⟨rfl, ⟨rfl, trivial⟩⟩⟩
  refine W_regL (WL_pure rfl rfl (by decide) (Pu_move rfl rfl) (WL_cons rfl rfl (by decide) (OpT_call 600 [0, 300, 400] [] rfl Try.call10 rfl rfl rfl (by decide) (by decide) (new_good room (by omega) _) (fun v43 Ps43 hR43 => ?_))))
  obtain ⟨gc, rfl, rfl⟩ := hR43
  refine (WL_pure rfl rfl (by decide) (Pu_move rfl rfl) (WL_pure rfl rfl (by decide) (Pu_extract rfl rfl rfl) (WL_pure rfl rfl (by decide) (Pu_extract rfl rfl rfl) (WL_pure rfl rfl (by decide) (Pu_assign rfl rfl) (WL_pure rfl rfl (by decide) (Pu_assign rfl rfl) (WL_nil (X_then ?_)))))))
  refine W_seq ?_
  refine W.pre (K' := [(0, _), (1, _), (4, _), (6, _), (8, _), (9, _), (25, _), (38, _)]) (L' := [(0, _), (300, _), (400, _), (600, _)]) ?_ ⟨rfl, ⟨rfl, ⟨rfl, ⟨rfl, ⟨rfl, ⟨rfl, ⟨rfl, ⟨rfl, trivial⟩⟩⟩⟩⟩⟩⟩⟩ ⟨rfl, ⟨rfl, ⟨rfl, ⟨rfl, trivial⟩⟩⟩⟩
  refine W_regL (WL_pure rfl rfl (by decide) (Pu_move rfl rfl) (WL_cons rfl rfl (by decide) (OpT_call 700 [0, 300, 400, 600] [] rfl Try.call15 rfl rfl rfl (by decide) (by decide) (refNew_good room (by omega) _) (fun v48 Ps48 hR48 => ?_))))
  obtain ⟨gr, rfl, rfl⟩ := hR48
  refine (WL_pure rfl rfl (by decide) (Pu_move rfl rfl) (WL_pure rfl rfl (by decide) (Pu_extract rfl rfl rfl) (WL_pure rfl rfl (by decide) (Pu_extract rfl rfl rfl) (WL_pure rfl rfl (by decide) (Pu_assign rfl rfl) (WL_pure rfl rfl (by decide) (Pu_assign rfl rfl) (WL_nil (X_then ?_)))))))
  refine W_seq ?_
  refine W_seq ?_
  refine W.pre (K' := [(0, _), (1, _), (4, _), (6, _), (8, _), (9, _), (11, _), (25, _), (38, _)]) (L' := [(0, _), (300, _), (400, _), (600, _), (700, _)]) ?_ ⟨rfl, ⟨rfl, ⟨rfl, ⟨rfl, ⟨rfl, ⟨rfl, ⟨rfl, ⟨rfl, ⟨rfl, trivial⟩⟩⟩⟩⟩⟩⟩⟩⟩ ⟨rfl, ⟨rfl, ⟨rfl, ⟨rfl, ⟨rfl, trivial⟩⟩⟩⟩⟩
  refine W_regL (WL_pure rfl rfl (by decide) (Pu_assign rfl rfl) (WL_nil (X_then ?_)))
  refine W_block ?_
  refine W_loop (α := Nat × Ents) (fun q => [(1, vc), (9, .pointer (some ⟨gc, 0, none⟩)), (11, .pointer (some ⟨gr, 0, none⟩)), (13, .int .i64 (q.1 : Int))]) (fun q => [(0, orig Wo), (600, cacheP gc room q.2), (700, refP gr room q.2.reverse)]) (fun q => True) (fun q => 80 - q.1) ((0, [])) trivial ⟨rfl, ⟨rfl, ⟨rfl, ⟨rfl, trivial⟩⟩⟩⟩ ⟨rfl, ⟨rfl, ⟨rfl, trivial⟩⟩⟩ (fun x hx => ?_)
  refine W_seq ?_
  refine W_seq ?_
  refine W.pre (K' := [(1, _), (9, _), (11, _), (13, _)]) (L' := [(0, _), (600, _), (700, _)]) ?_ ⟨rfl, ⟨rfl, ⟨rfl, ⟨rfl, trivial⟩⟩⟩⟩ ⟨rfl, ⟨rfl, ⟨rfl, trivial⟩⟩⟩
  refine W_regL (WL_pure rfl rfl (by decide) (Pu_move rfl rfl) (WL_pure rfl rfl (by decide) (Pu_move rfl rfl) (WL_pure rfl rfl (by decide) (Pu_len (r := 0) rfl Try.runUnderlying22 rfl rfl (fun h hp => Rd.orig hrc h hp)) (WL_pure rfl rfl (by decide) (Pu_bin rfl rfl rfl (run_lss _ _ _ _ _ _)) (WL_pure rfl rfl (by decide) (Pu_move rfl rfl) (WL_guardP rfl rfl rfl rfl (by decide) (fun hb => (Pu_move rfl rfl)) (WL_guardP rfl rfl rfl rfl (by decide) (fun hb => (Pu_bin rfl (ev_gv rfl hb) rfl (run_lss _ _ _ _ _ _))) (WL_pure rfl rfl (by decide) (Pu_and rfl rfl rfl) (WL_nil (X_then ?_))))))))))
  refine W_cond rfl (fun hc58 => ?_) (fun hc58 => ?_)
  ·
    have hi : x.1 < calls.length ∧ x.1 < 80 := by simp at hc58; omega
    obtain ⟨hi1, hi2⟩ := hi
    have hct := calls_take hi1
    refine W_skip (X_then ?_)
    refine W_seq ?_
    refine W_block ?_
    refine W_seq ?_
    refine W.pre (K' := [(1, _), (9, _), (11, _), (13, _), (58, _)]) (L' := [(0, _), (600, _), (700, _)]) ?_ ⟨rfl, ⟨rfl, ⟨rfl, ⟨rfl, ⟨rfl, trivial⟩⟩⟩⟩⟩ ⟨rfl, ⟨rfl, ⟨rfl, trivial⟩⟩⟩
    refine W_regL (WL_pure rfl rfl (by decide) (Pu_move rfl rfl) (WL_pure rfl rfl (by decide) (Pu_move rfl rfl) (WL_pure rfl rfl (by decide) (Pu_idxS (r := 0) rfl Try.runUnderlying22 Try.sizeOf30 rfl rfl rfl (fun h hp => Rd.orig hrc h hp) (by omega)) (WL_pure rfl rfl (by decide) (Pu_loadSN (r := 0) rfl Try.isAgg30 Try.sizeOf30 rfl rfl (fun h hp => Rd.orig hrc h hp) rfl (by decide) hct) (WL_cons rfl rfl (by decide) (OpT_alloc (r := 701) rfl (zero_run (by kernel_rfl : (Try.prog.info? 30).bind (·.zero) = some (.agg ([.bool false, .int .i64 0, .int .i64 0]).toArray))) rfl (fun g701 => (WL_cons0 rfl rfl (OpT_storeAll (r := 701) rfl Try.sizeOf30 rfl rfl rfl rfl rfl (by intro u hu; simp only [List.mem_cons, List.not_mem_nil, or_false] at hu; rcases hu with rfl | rfl | rfl <;> rfl) ?_)))))))))
    refine (WL_nil (X_then ?_))
    refine W_seq ?_
    refine W_seq ?_
    refine W.pre (K' := [(1, _), (9, _), (11, _), (13, _), (14, _), (58, _)]) (L' := [(0, _), (600, _), (700, _), (701, _)]) ?_ ⟨rfl, ⟨rfl, ⟨rfl, ⟨rfl, ⟨rfl, ⟨rfl, trivial⟩⟩⟩⟩⟩⟩ ⟨rfl, ⟨rfl, ⟨rfl, ⟨rfl, trivial⟩⟩⟩⟩
    refine W_regL (WL_pure rfl rfl (by decide) (Pu_fieldAddrB (off := 0) rfl rfl (by kernel_rfl)) (WL_pure rfl rfl (by decide) (Pu_loadB (r := 701) rfl Try.isAgg4 rfl rfl rfl) (WL_nil (X_then ?_))))
    refine W_cond rfl (fun hc66 => ?_) (fun hc66 => ?_)
    ·
      refine W_seq ?_
      refine W.pre (K' := [(1, _), (9, _), (11, _), (13, _), (14, _), (58, _), (66, _)]) (L' := [(0, _), (600, _), (700, _), (701, _)]) ?_ ⟨rfl, ⟨rfl, ⟨rfl, ⟨rfl, ⟨rfl, ⟨rfl, ⟨rfl, trivial⟩⟩⟩⟩⟩⟩⟩ ⟨rfl, ⟨rfl, ⟨rfl, ⟨rfl, trivial⟩⟩⟩⟩
      refine W_regL (WL_pure rfl rfl (by decide) (Pu_fieldAddrB (off := 2) rfl rfl (by kernel_rfl)) (WL_pure rfl rfl (by decide) (Pu_loadB (r := 701) rfl Try.isAgg3 rfl rfl rfl) (WL_cons rfl rfl (by decide) (OpT_call 800 [0, 600, 700, 701] [] rfl Try.call9 rfl rfl rfl (by decide) (by decide) (within_spec (callAt calls x.1).2.2 90 (by omega) (by omega) _) (fun v69 Ps69 hR69 => ?_)))))
      obtain ⟨rfl, rfl⟩ := hR69
      obtain ⟨n, hn, hn2⟩ : ∃ n : Nat, (callAt calls x.1).2.2 % 90 = (n : Int) ∧ n < 90 := ⟨((callAt calls x.1).2.2 % 90).toNat, by omega, by omega⟩
      rw [hn]
      refine (WL_cons rfl rfl (by decide) (OpT_make (r := 801) (m := n) rfl Try.underlying35 TI.hi5 TI.hz5 TI.hs5 rfl rfl (by rw [TI.hby5]; omega) (by unfold maxLen; omega) ((made_one _ _).trans (made_bytes n)) (fun v70 => ?_)))
      refine (WL_pure rfl rfl (by decide) (Pu_assign rfl rfl) (WL_nil (X_then ?_)))
      refine W_seq ?_
      refine W_seq ?_
      refine W.pre (K' := [(1, _), (9, _), (11, _), (13, _), (14, _), (15, _), (58, _), (66, _)]) (L' := [(0, _), (600, _), (700, _), (701, _), (801, _)]) ?_ ⟨rfl, ⟨rfl, ⟨rfl, ⟨rfl, ⟨rfl, ⟨rfl, ⟨rfl, ⟨rfl, trivial⟩⟩⟩⟩⟩⟩⟩⟩ ⟨rfl, ⟨rfl, ⟨rfl, ⟨rfl, ⟨rfl, trivial⟩⟩⟩⟩⟩
      refine W_regL (WL_pure rfl rfl (by decide) (Pu_assign rfl rfl) (WL_nil (X_then ?_)))
      refine W_block ?_
      refine W_loop (α := Nat) (fun j => [(1, vc), (9, .pointer (some ⟨gc, 0, none⟩)), (11, .pointer (some ⟨gr, 0, none⟩)), (13, .int .i64 (x.1 : Int)), (14, .pointer (some ⟨g701, 0, none⟩)), (15, v70), (16, .int .i64 (j : Int))]) (fun j => [(0, orig Wo), (600, cacheP gc room x.2), (700, refP gr room x.2.reverse), (701, blk g701 30 [.bool (callAt calls x.1).1, .int .i64 (callAt calls x.1).2.1, .int .i64 (callAt calls x.1).2.2]), (801, rowP 5 1 v70 n (bs (fillTo n j (byte (x.1 : Int)))))]) (fun j => j ≤ n) (fun j => n - j) (0) (Nat.zero_le _) ⟨rfl, ⟨rfl, ⟨rfl, ⟨rfl, ⟨rfl, ⟨rfl, ⟨rfl, trivial⟩⟩⟩⟩⟩⟩⟩ ⟨rfl, rfl, rfl, rfl, look_eq rfl (by rw [fillTo_zero]), trivial⟩ (fun y hy => ?_)
      refine W_seq ?_
      refine W_seq ?_
      refine W.pre (K' := [(1, _), (9, _), (11, _), (13, _), (14, _), (15, _), (16, _)]) (L' := [(0, _), (600, _), (700, _), (701, _), (801, _)]) ?_ ⟨rfl, ⟨rfl, ⟨rfl, ⟨rfl, ⟨rfl, ⟨rfl, ⟨rfl, trivial⟩⟩⟩⟩⟩⟩⟩ ⟨rfl, ⟨rfl, ⟨rfl, ⟨rfl, ⟨rfl, trivial⟩⟩⟩⟩⟩
      refine W_regL (WL_pure rfl rfl (by decide) (Pu_move rfl rfl) (WL_pure rfl rfl (by decide) (Pu_move rfl rfl) (WL_pure rfl rfl (by decide) (Pu_len (r := 801) rfl Try.runUnderlying35 rfl rfl (fun _ h => rowP_rd h)) (WL_pure rfl rfl (by decide) (Pu_bin rfl rfl rfl (run_lss _ _ _ _ _ _)) (WL_nil (X_then ?_))))))
      refine W_cond rfl (fun hc74 => ?_) (fun hc74 => ?_)
      ·
        have hj : y < n := by have := of_decide_eq_true hc74; omega
        refine W_skip (X_then ?_)
        refine W_seq ?_
        refine W_block ?_
        refine W.pre (K' := [(1, _), (9, _), (11, _), (13, _), (14, _), (15, _), (16, _), (74, _)]) (L' := [(0, _), (600, _), (700, _), (701, _), (801, _)]) ?_ ⟨rfl, ⟨rfl, ⟨rfl, ⟨rfl, ⟨rfl, ⟨rfl, ⟨rfl, ⟨rfl, trivial⟩⟩⟩⟩⟩⟩⟩⟩ ⟨rfl, ⟨rfl, ⟨rfl, ⟨rfl, ⟨rfl, trivial⟩⟩⟩⟩⟩
        refine W_regL (WL_pure rfl rfl (by decide) (Pu_move rfl rfl) (WL_pure rfl rfl (by decide) (Pu_move rfl rfl) (WL_pure rfl rfl (by decide) (Pu_move rfl rfl) (WL_pure rfl rfl (by decide) (Pu_conv rfl rfl (conv_byte _ _ Try.runUnderlying3 Try.runUnderlying5)) (WL_pure rfl rfl (by decide) (Pu_idxS1 (r := 801) rfl Try.runUnderlying35 Try.sizeOf5 rfl rfl rfl (fun _ h => rowP_rd h) (by omega)) (WL_cons0 rfl rfl (OpT_storeS1 (r := 801) rfl Try.sizeOf5 rfl rfl rfl rfl (by rw [bs_length, fillTo_length (by omega)]; omega) (fillTo_set hj) ?_)))))))
        refine (WL_nil (X_block (X_then ?_)))
        refine W.pre (K' := [(1, _), (9, _), (11, _), (13, _), (14, _), (15, _), (16, _), (74, _)]) (L' := [(0, _), (600, _), (700, _), (701, _), (801, _)]) ?_ ⟨rfl, ⟨rfl, ⟨rfl, ⟨rfl, ⟨rfl, ⟨rfl, ⟨rfl, ⟨rfl, trivial⟩⟩⟩⟩⟩⟩⟩⟩ ⟨rfl, ⟨rfl, ⟨rfl, ⟨rfl, ⟨rfl, trivial⟩⟩⟩⟩⟩
        refine W_regL (WL_pure rfl rfl (by decide) (Pu_move rfl rfl) (WL_pure rfl rfl (by decide) (Pu_bin rfl rfl rfl (run_add _ _ _ _ _ (by omega))) (WL_pure rfl rfl (by decide) (Pu_assign rfl rfl) (WL_nil ?_))))
        exact X_round (y + 1) (by omega) (by omega) ⟨rfl, rfl, rfl, rfl, rfl, rfl, rfl, trivial⟩ ⟨rfl, rfl, rfl, rfl, rfl, trivial⟩
      ·
        obtain rfl : y = n := by have := of_decide_eq_false hc74; omega
        rw [fillTo_all]
        refine W_exit (X_then_exit (X_then_exit (X_block_exit (X_then ?_))))
        refine W_seq ?_
        refine W_seq ?_
        refine W.pre (K' := [(1, _), (9, _), (11, _), (13, _), (14, _), (15, _), (16, _), (74, _)]) (L' := [(0, _), (600, _), (700, _), (701, _), (801, _)]) ?_ ⟨rfl, ⟨rfl, ⟨rfl, ⟨rfl, ⟨rfl, ⟨rfl, ⟨rfl, ⟨rfl, trivial⟩⟩⟩⟩⟩⟩⟩⟩ ⟨rfl, ⟨rfl, ⟨rfl, ⟨rfl, ⟨rfl, trivial⟩⟩⟩⟩⟩
        refine W_draw (N := 15) (by kernel_rfl) rfl [(0, _), (701, _)] ⟨rfl, ⟨rfl, trivial⟩⟩ ?_
        refine (AH_take 0 rfl (by kernel_rfl) (by kernel_rfl) (by kernel_rfl) rfl rfl (by decide) (Pu_move rfl rfl) (AH_take 1 rfl (by kernel_rfl) (by kernel_rfl) (by kernel_rfl) rfl rfl (by decide) (Pu_fieldAddrB (off := 1) rfl rfl (by kernel_rfl)) (AH_take 2 rfl (by kernel_rfl) (by kernel_rfl) (by kernel_rfl) rfl rfl (by decide) (Pu_loadB (r := 701) rfl Try.isAgg3 rfl rfl rfl) (AH_take 4 rfl (by kernel_rfl) (by kernel_rfl) (by kernel_rfl) rfl rfl (by decide) (Pu_move rfl rfl) (AH_take 6 rfl (by kernel_rfl) (by kernel_rfl) (by kernel_rfl) rfl rfl (by decide) (Pu_move rfl rfl) (AH_take 7 rfl (by kernel_rfl) (by kernel_rfl) (by kernel_rfl) rfl rfl (by decide) (Pu_fieldAddrB (off := 1) rfl rfl (by kernel_rfl)) (AH_take 8 rfl (by kernel_rfl) (by kernel_rfl) (by kernel_rfl) rfl rfl (by decide) (Pu_loadB (r := 701) rfl Try.isAgg3 rfl rfl rfl) (AH_take 11 rfl (by kernel_rfl) (by kernel_rfl) (by kernel_rfl) rfl rfl (by decide) (Pu_move rfl rfl) (AH_ready [3, 10] (by kernel_rfl) (by decide) ?_)))))))))
        refine AHs_cons rfl rfl rfl (by decide) (OpT_call 900 [0, 600, 700, 701, 801] [] rfl Try.call12 rfl rfl rfl (by decide) (by decide) (key_spec (callAt calls x.1).2.1 _) (fun v85 Ps85 hR85 => ?_)) ?_
        ·
          obtain ⟨rfl, rfl⟩ := hR85
          refine ⟨⟨rfl, ⟨rfl, trivial⟩⟩, ?_⟩
          refine (AH_ready [5, 10] (by kernel_rfl) (by decide) ?_)
          refine AHs_cons rfl rfl rfl (by decide) (OpT_call 1000 [0, 700, 701, 801] [600] rfl Try.call11 rfl rfl rfl (by decide) (by decide) (put_spec gc room x.2 (keyB (callAt calls x.1).2.1) (keyB_length _) v70 (List.replicate y (byte (x.1 : Int))) _ (rd_star 3 rfl (fun h hp => rdP_cast (rowP_rd hp) rfl (List.length_replicate).symm))) (fun v87 Ps87 hR87 => ?_)) ?_
          ·
            obtain ⟨rfl, rfl⟩ := hR87
            refine ⟨⟨rfl, ⟨rfl, trivial⟩⟩, ?_⟩
            refine (AH_ready [9, 10] (by kernel_rfl) (by decide) ?_)
            refine AHs_cons rfl rfl rfl (by decide) (OpT_call 1100 [0, 700, 701, 801, 1000] [] rfl Try.call12 rfl rfl rfl (by decide) (by decide) (key_spec (callAt calls x.1).2.1 _) (fun v91 Ps91 hR91 => ?_)) ?_
            ·
              obtain ⟨rfl, rfl⟩ := hR91
              refine ⟨⟨rfl, ⟨rfl, trivial⟩⟩, ?_⟩
              refine (AH_ready [10] (by kernel_rfl) (by decide) ?_)
              refine AHs_cons rfl rfl rfl (by decide) (OpT_buildOnes (r := 1101) [] rfl rfl Try.runUnderlying35 Try.sizeOf5 Try.zeroValue5 rfl rfl (by decide) rfl (by simp) (fun v92 => ⟨⟨rfl, ⟨rfl, trivial⟩⟩, ?_⟩)) ?_
              ·
                refine (AH_ready [12] (by kernel_rfl) (by decide) ?_)
                refine AHs_cons rfl rfl rfl (by decide) (OpT_append (r := 1101) (r2 := 801) (k1 := 0) rfl Try.underlying35 TI.hi5 TI.hz5 TI.hs5 TI.hby5 TI.hzs5 (by decide) rfl rfl rfl rfl (fun _ h => rowP_rd h) (bs_one _) (by unfold maxLen; omega) (by omega) (fun v94 => ?_)) ?_
                ·
                  refine ⟨⟨rfl, ⟨rfl, trivial⟩⟩, ?_⟩
                  refine (AH_ready [13] (by kernel_rfl) (by decide) ?_)
                  refine AHs_cons rfl rfl rfl (by decide) (OpT_call 1200 [0, 701, 801, 1000, 1101] [700] rfl Try.call16 rfl rfl rfl (by decide) (by decide) (refPut_spec gr room x.2.reverse (keyB (callAt calls x.1).2.1) (keyB_length _) v94 (List.replicate y (byte (x.1 : Int))) (by rw [List.length_replicate]; omega) _ (rd_star 4 rfl (fun h hp => rdP_cast (rowP_rd hp) (List.nil_append _) (by simp)))) (fun v95 Ps95 hR95 => ?_)) ?_
                  ·
                    obtain ⟨rfl, rfl⟩ := hR95
                    refine ⟨⟨rfl, ⟨rfl, trivial⟩⟩, ?_⟩
                    rw [List.reverse_reverse]
                    refine (AH_take 14 rfl (by kernel_rfl) (by kernel_rfl) (by kernel_rfl) rfl rfl (by decide) (Pu_bin rfl rfl rfl (run_neb _ _ _ Try.underlying4 _ _)) (AH_done (by kernel_rfl) (X_then ?_)))
                    refine W_false rfl (by simp) ?_
                    refine W_skip (X_then ?_)
                    refine W_seq ?_
                    refine W.pre (K' := [(1, _), (9, _), (11, _), (13, _), (14, _), (15, _), (16, _), (74, _), (96, _)]) (L' := [(0, _), (701, _), (801, _), (1000, _), (1101, _), (1200, _)]) ?_ ⟨rfl, ⟨rfl, ⟨rfl, ⟨rfl, ⟨rfl, ⟨rfl, ⟨rfl, ⟨rfl, ⟨rfl, trivial⟩⟩⟩⟩⟩⟩⟩⟩⟩ ⟨rfl, ⟨rfl, ⟨rfl, ⟨rfl, ⟨rfl, ⟨rfl, trivial⟩⟩⟩⟩⟩⟩
                    refine W_regL (WL_pure rfl rfl (by decide) (Pu_assign rfl rfl) (WL_nil (X_then ?_)))
                    refine W_block ?_
                    refine W_loop (α := Nat × List UInt8) (fun u => [(1, vc), (9, .pointer (some ⟨gc, 0, none⟩)), (11, .pointer (some ⟨gr, 0, none⟩)), (13, .int .i64 (x.1 : Int)), (15, v70), (17, .int .i64 (u.1 : Int))]) (fun u => [(0, orig Wo), (1000, cacheP gc room (putC room x.2 (keyB (callAt calls x.1).2.1) (List.replicate y (byte (x.1 : Int))))), (1200, refP gr room (putC room x.2 (keyB (callAt calls x.1).2.1) (List.replicate y (byte (x.1 : Int)))).reverse), (801, rowP 5 1 v70 y (bs u.2))]) (fun u => u.1 ≤ y ∧ u.2.length = y) (fun u => y - u.1) ((0, List.replicate y (byte (x.1 : Int)))) ⟨Nat.zero_le _, List.length_replicate⟩ ⟨rfl, ⟨rfl, ⟨rfl, ⟨rfl, ⟨rfl, ⟨rfl, trivial⟩⟩⟩⟩⟩⟩ ⟨rfl, ⟨rfl, ⟨rfl, ⟨rfl, trivial⟩⟩⟩⟩ (fun u hu => ?_)
                    obtain ⟨hu1, hu2⟩ := hu
                    refine W_seq ?_
                    refine W_seq ?_
                    refine W.pre (K' := [(1, _), (9, _), (11, _), (13, _), (15, _), (17, _)]) (L' := [(0, _), (801, _), (1000, _), (1200, _)]) ?_ ⟨rfl, ⟨rfl, ⟨rfl, ⟨rfl, ⟨rfl, ⟨rfl, trivial⟩⟩⟩⟩⟩⟩ ⟨rfl, ⟨rfl, ⟨rfl, ⟨rfl, trivial⟩⟩⟩⟩
                    refine W_regL (WL_pure rfl rfl (by decide) (Pu_move rfl rfl) (WL_pure rfl rfl (by decide) (Pu_move rfl rfl) (WL_pure rfl rfl (by decide) (Pu_len (r := 801) rfl Try.runUnderlying35 rfl rfl (fun _ h => rowP_rd h)) (WL_pure rfl rfl (by decide) (Pu_bin rfl rfl rfl (run_lss _ _ _ _ _ _)) (WL_nil (X_then ?_))))))
                    refine W_cond rfl (fun hc100 => ?_) (fun hc100 => ?_)
                    ·
                      have hj3 : u.1 < y := by have := of_decide_eq_true hc100; omega
                      refine W_skip (X_then ?_)
                      refine W_seq ?_
                      refine W_block ?_
                      refine W.pre (K' := [(1, _), (9, _), (11, _), (13, _), (15, _), (17, _), (100, _)]) (L' := [(0, _), (801, _), (1000, _), (1200, _)]) ?_ ⟨rfl, ⟨rfl, ⟨rfl, ⟨rfl, ⟨rfl, ⟨rfl, ⟨rfl, trivial⟩⟩⟩⟩⟩⟩⟩ ⟨rfl, ⟨rfl, ⟨rfl, ⟨rfl, trivial⟩⟩⟩⟩
                      refine W_regL (WL_pure rfl rfl (by decide) (Pu_move rfl rfl) (WL_pure rfl rfl (by decide) (Pu_move rfl rfl) (WL_pure rfl rfl (by decide) (Pu_idxS1 (r := 801) rfl Try.runUnderlying35 Try.sizeOf5 rfl rfl rfl (fun _ h => rowP_rd h) (by omega)) (WL_cons0 rfl rfl (OpT_storeS1 (r := 801) rfl Try.sizeOf5 rfl rfl rfl rfl (by rw [bs_length, hu2]; omega) rfl ?_)))))
                      refine (WL_nil (X_block (X_then ?_)))
                      refine W.pre (K' := [(1, _), (9, _), (11, _), (13, _), (15, _), (17, _), (100, _)]) (L' := [(0, _), (801, _), (1000, _), (1200, _)]) ?_ ⟨rfl, ⟨rfl, ⟨rfl, ⟨rfl, ⟨rfl, ⟨rfl, ⟨rfl, trivial⟩⟩⟩⟩⟩⟩⟩ ⟨rfl, ⟨rfl, ⟨rfl, ⟨rfl, trivial⟩⟩⟩⟩
                      refine W_regL (WL_pure rfl rfl (by decide) (Pu_move rfl rfl) (WL_pure rfl rfl (by decide) (Pu_bin rfl rfl rfl (run_add _ _ _ _ _ (by omega))) (WL_pure rfl rfl (by decide) (Pu_assign rfl rfl) (WL_nil ?_))))
                      exact X_round (u.1 + 1, u.2.set u.1 238) ⟨by show u.1 + 1 ≤ _; omega, by simp [hu2]⟩ (by show _ - (u.1 + 1) < _; omega) ⟨rfl, rfl, rfl, rfl, rfl, rfl, trivial⟩ ⟨rfl, rfl, rfl, look_eq rfl (by rw [show bs (u.2.set u.1 238) = (bs u.2).set u.1 (bv 238) by simp [bs, List.map_set]]; rfl), trivial⟩
                    ·
                      refine W_exit (X_then_exit (X_then_exit (X_block_exit (X_then ?_))))
                      refine W_seq ?_
                      refine W.pre (K' := [(1, _), (9, _), (11, _), (13, _), (15, _), (17, _), (100, _)]) (L' := [(0, _), (801, _), (1000, _), (1200, _)]) ?_ ⟨rfl, ⟨rfl, ⟨rfl, ⟨rfl, ⟨rfl, ⟨rfl, ⟨rfl, trivial⟩⟩⟩⟩⟩⟩⟩ ⟨rfl, ⟨rfl, ⟨rfl, ⟨rfl, trivial⟩⟩⟩⟩
                      obtain ⟨l1, hl1⟩ : ∃ l1, putC room x.2 (keyB (callAt calls x.1).2.1) (List.replicate y (byte (x.1 : Int))) = l1 := ⟨_, rfl⟩
                      rw [hl1]
                      refine W_regL (WL_pure rfl rfl (by decide) (Pu_move rfl rfl) (WL_cons rfl rfl (by decide) (OpT_call 1300 [0, 801, 1200] [1000] rfl Try.call14 rfl rfl rfl (by decide) (by decide) (keys_spec gc room l1 _) (fun v133 Ps133 hR133 => ?_))))
                      subst hR133
                      refine (WL_pure rfl rfl (by decide) (Pu_assign rfl rfl) (WL_nil (X_then ?_)))
                      refine W_seq ?_
                      refine W_seq ?_
                      refine W.pre (K' := [(1, _), (9, _), (11, _), (13, _), (15, _), (17, _), (22, _), (100, _)]) (L' := [(0, _), (801, _), (1200, _), (1300, _), (1301, _)]) ?_ ⟨rfl, ⟨rfl, ⟨rfl, ⟨rfl, ⟨rfl, ⟨rfl, ⟨rfl, ⟨rfl, trivial⟩⟩⟩⟩⟩⟩⟩⟩ ⟨rfl, ⟨rfl, ⟨rfl, ⟨rfl, ⟨rfl, trivial⟩⟩⟩⟩⟩
                      refine W_openRef 1200 1400 rfl (fun v es hg hke h1e ho => ?_)
                      refine W_regL (WL_pure rfl rfl (by decide) (Pu_move rfl rfl) (WL_pure rfl rfl (by decide) (Pu_len (r := 1301) rfl Try.runUnderlying37 rfl rfl rowI_rd) (WL_pure rfl rfl (by decide) (Pu_move rfl rfl) (WL_pure rfl rfl (by decide) (Pu_nilCheck rfl rfl) (WL_pure rfl rfl (by decide) (Pu_fieldAddrB (off := 1) rfl rfl (by kernel_rfl)) (WL_pure rfl rfl (by decide) (Pu_loadB (r := 1400) rfl Try.isAgg47 rfl rfl rfl) (WL_pure rfl rfl (by decide) (Pu_len (r := 1401) rfl Try.runUnderlying47 rfl rfl (fun _ h => rowP_rd h)) ?_)))))))
                      refine WL_join [1400, 1401, 1402] 1200 (refP gr room l1.reverse) rfl (by decide) (fun h hs => closeRef hg hke h1e ho hs) ?_
                      refine (WL_pure rfl rfl (by decide) (Pu_bin rfl rfl rfl (run_neq _ _ _ _ _ _)) (WL_pure rfl rfl (by decide) (Pu_move rfl rfl) (WL_gPT rfl rfl rfl (by simp [keys]) rfl (by decide) (Pu_move rfl rfl) (WL_gT rfl rfl rfl (by simp [keys]) rfl (by decide) (OpT_call 1500 [0, 801, 1200, 1301] [1300] rfl Try.call13 rfl rfl rfl (by decide) (by decide) (total_spec gc room l1 _) (fun v144 Ps144 hR144 => ?_))))))
                      obtain ⟨rfl, rfl⟩ := hR144
                      refine (WL_gPT rfl rfl rfl (by simp [keys]) rfl (by decide) (Pu_move rfl rfl) (WL_gT rfl rfl rfl (by simp [keys]) rfl (by decide) (OpT_call 1600 [0, 801, 1301, 1500] [1200] rfl Try.call19 rfl rfl rfl (by decide) (by decide) (refTotal_spec gr room l1.reverse _) (fun v146 Ps146 hR146 => ?_))))
                      obtain ⟨rfl, rfl⟩ := hR146
                      refine (WL_gPT rfl rfl rfl (by simp [keys]) rfl (by decide) (Pu_bin rfl rfl rfl (run_neq _ _ _ _ _ _)) (WL_pure rfl rfl (by decide) (Pu_pickF rfl rfl (by simp [keys]) rfl) (WL_nil (X_then ?_))))
                      refine W_false rfl (by rw [total_reverse]; simp) ?_
                      refine W_skip (X_then ?_)
                      refine W_seq ?_
                      refine W.pre (K' := [(1, _), (9, _), (11, _), (13, _), (15, _), (17, _), (22, _), (100, _), (148, _)]) (L' := [(0, _), (801, _), (1301, _), (1500, _), (1600, _)]) ?_ ⟨rfl, ⟨rfl, ⟨rfl, ⟨rfl, ⟨rfl, ⟨rfl, ⟨rfl, ⟨rfl, ⟨rfl, trivial⟩⟩⟩⟩⟩⟩⟩⟩⟩ ⟨rfl, ⟨rfl, ⟨rfl, ⟨rfl, ⟨rfl, trivial⟩⟩⟩⟩⟩
                      refine W_openRef 1600 1700 rfl (fun v es hg hke h1e ho => ?_)
                      have hidsR : Ids (keys l1).reverse := fun y hy => hg.ids y (by rw [List.reverse_reverse]; exact List.mem_reverse.1 hy)
                      have hids : Ids (es.map (·.1)) := fun y hy => hidsR y (by rw [hke, keys_reverse] at hy; exact hy)
                      have hel : es.length = (keys l1).reverse.length := by have := congrArg List.length hke; simpa [keys] using this
                      refine W_regL (WL_pure rfl rfl (by decide) (Pu_assign rfl rfl) (WL_nil (X_then ?_)))
                      refine W_block ?_
                      refine W_loop (α := Nat) (fun w => [(1, vc), (9, .pointer (some ⟨gc, 0, none⟩)), (11, .pointer (some ⟨gr, 0, none⟩)), (13, .int .i64 (x.1 : Int)), (22, v133), (23, .int .i64 (w : Int))]) (fun w => [(0, orig Wo), (1500, cacheP gc room l1), (1700, blk gr 49 [.int .i64 (room : Int), v]), (1701, rowP 51 33 v l1.reverse.length (onesC es)), (1702, dataR es l1.reverse), (1301, rowI 33 v133 (keys l1).reverse)]) (fun w => w ≤ (keys l1).reverse.length) (fun w => (keys l1).reverse.length - w) (0) (Nat.zero_le _) ⟨rfl, ⟨rfl, ⟨rfl, ⟨rfl, ⟨rfl, ⟨rfl, trivial⟩⟩⟩⟩⟩⟩ ⟨rfl, ⟨rfl, ⟨rfl, ⟨rfl, ⟨rfl, ⟨rfl, trivial⟩⟩⟩⟩⟩⟩ (fun w hw => ?_)
                      refine W_seq ?_
                      refine W_seq ?_
                      refine W.pre (K' := [(1, _), (9, _), (11, _), (13, _), (22, _), (23, _)]) (L' := [(0, _), (1301, _), (1500, _), (1700, _), (1701, _), (1702, _)]) ?_ ⟨rfl, ⟨rfl, ⟨rfl, ⟨rfl, ⟨rfl, ⟨rfl, trivial⟩⟩⟩⟩⟩⟩ ⟨rfl, ⟨rfl, ⟨rfl, ⟨rfl, ⟨rfl, ⟨rfl, trivial⟩⟩⟩⟩⟩⟩
                      refine W_regL (WL_pure rfl rfl (by decide) (Pu_move rfl rfl) (WL_pure rfl rfl (by decide) (Pu_move rfl rfl) (WL_pure rfl rfl (by decide) (Pu_len (r := 1301) rfl Try.runUnderlying37 rfl rfl rowI_rd) (WL_pure rfl rfl (by decide) (Pu_bin rfl rfl rfl (run_lss _ _ _ _ _ _)) (WL_nil (X_then ?_))))))
                      refine W_cond rfl (fun hc152 => ?_) (fun hc152 => ?_)
                      ·
                        have hlt : w < (keys l1).reverse.length := by have := of_decide_eq_true hc152; omega
                        obtain ⟨p, hp⟩ : ∃ p, es[w]? = some p := ⟨_, List.getElem?_eq_getElem (by omega)⟩
                        obtain ⟨hp32, hp1, hp2, hp3⟩ := onesC_of hids hp
                        have hid := hidsR.get hlt
                        have hpe : (keys l1).reverse.getD w [] = p.1 := by have h0 := congrArg (fun m => m.getD w []) hke; simp only [keys_reverse] at h0; rw [← h0]; simp [hp]
                        refine W_skip (X_then ?_)
                        refine W_seq ?_
                        refine W_block ?_
                        refine W_seq ?_
                        refine W.pre (K' := [(1, _), (9, _), (11, _), (13, _), (22, _), (23, _), (152, _)]) (L' := [(0, _), (1301, _), (1500, _), (1700, _), (1701, _), (1702, _)]) ?_ ⟨rfl, ⟨rfl, ⟨rfl, ⟨rfl, ⟨rfl, ⟨rfl, ⟨rfl, trivial⟩⟩⟩⟩⟩⟩⟩ ⟨rfl, ⟨rfl, ⟨rfl, ⟨rfl, ⟨rfl, ⟨rfl, trivial⟩⟩⟩⟩⟩⟩
                        refine W_draw (N := 13) (by kernel_rfl) rfl [(0, _), (1700, _), (1301, _), (1701, _)] ⟨rfl, ⟨rfl, ⟨rfl, ⟨rfl, trivial⟩⟩⟩⟩ ?_
                        refine (AH_take 0 rfl (by kernel_rfl) (by kernel_rfl) (by kernel_rfl) rfl rfl (by decide) (Pu_move rfl rfl) (AH_take 1 rfl (by kernel_rfl) (by kernel_rfl) (by kernel_rfl) rfl rfl (by decide) (Pu_move rfl rfl) (AH_take 2 rfl (by kernel_rfl) (by kernel_rfl) (by kernel_rfl) rfl rfl (by decide) (Pu_idxS (r := 1301) rfl Try.runUnderlying37 Try.sizeOf33 rfl rfl rfl rowI_rd (by omega)) (AH_take 3 rfl (by kernel_rfl) (by kernel_rfl) (by kernel_rfl) rfl rfl (by decide) (Pu_loadSN (r := 1301) rfl Try.isAgg33 Try.sizeOf33 rfl rfl rowI_rd ((bs_length _).trans hid) (by decide) (idsC_get (k := w) hidsR hlt)) (AH_take 4 rfl (by kernel_rfl) (by kernel_rfl) (by kernel_rfl) rfl rfl (by decide) (Pu_move rfl rfl) (AH_take 5 rfl (by kernel_rfl) (by kernel_rfl) (by kernel_rfl) rfl rfl (by decide) (Pu_nilCheck rfl rfl) (AH_take 6 rfl (by kernel_rfl) (by kernel_rfl) (by kernel_rfl) rfl rfl (by decide) (Pu_fieldAddrB (off := 1) rfl rfl (by kernel_rfl)) (AH_take 7 rfl (by kernel_rfl) (by kernel_rfl) (by kernel_rfl) rfl rfl (by decide) (Pu_loadB (r := 1700) rfl Try.isAgg47 rfl rfl rfl) (AH_take 8 rfl (by kernel_rfl) (by kernel_rfl) (by kernel_rfl) rfl rfl (by decide) (Pu_move rfl rfl) (AH_take 9 rfl (by kernel_rfl) (by kernel_rfl) (by kernel_rfl) rfl rfl (by decide) (Pu_idxS (r := 1701) rfl Try.runUnderlying47 Try.sizeOf51 rfl rfl rfl (fun _ h => rowP_rd h) (by rw [List.length_reverse]; rw [List.length_reverse, keys_length] at hlt; omega)) (AH_take 10 rfl (by kernel_rfl) (by kernel_rfl) (by kernel_rfl) rfl rfl (by decide) (Pu_fieldAddrE (off := 0) rfl rfl (by kernel_rfl)) (AH_take 11 rfl (by kernel_rfl) (by kernel_rfl) (by kernel_rfl) rfl rfl (by decide) (Pu_loadSN (r := 1701) rfl Try.isAgg33 Try.sizeOf33 rfl rfl (fun _ h => rowP_rd h) ((bs_length _).trans hp32) (by decide) hp2) (AH_take 12 rfl (by kernel_rfl) (by kernel_rfl) (by kernel_rfl) rfl rfl (by decide) (Pu_bin rfl rfl rfl (run_idNe _ _ hid hp32 _ _)) (AH_done (by kernel_rfl) (X_then ?_)))))))))))))))
                        refine W_false rfl (by rw [hpe]; simp) ?_
                        refine W_skip (X_block (X_then ?_))
                        refine W.pre (K' := [(1, _), (9, _), (11, _), (13, _), (22, _), (23, _), (152, _), (167, _)]) (L' := [(0, _), (1301, _), (1500, _), (1700, _), (1701, _), (1702, _)]) ?_ ⟨rfl, ⟨rfl, ⟨rfl, ⟨rfl, ⟨rfl, ⟨rfl, ⟨rfl, ⟨rfl, trivial⟩⟩⟩⟩⟩⟩⟩⟩ ⟨rfl, ⟨rfl, ⟨rfl, ⟨rfl, ⟨rfl, ⟨rfl, trivial⟩⟩⟩⟩⟩⟩
                        refine W_regL (WL_pure rfl rfl (by decide) (Pu_move rfl rfl) (WL_pure rfl rfl (by decide) (Pu_bin rfl rfl rfl (run_add _ _ _ _ _ (by have : (keys l1).reverse.length ≤ 1073741824 := (by rw [List.length_reverse, keys_length]; have := hg.len; simpa using this); omega))) (WL_pure rfl rfl (by decide) (Pu_assign rfl rfl) (WL_nil ?_))))
                        exact X_round (w + 1) (by omega) (by omega) ⟨rfl, rfl, rfl, rfl, rfl, rfl, trivial⟩ ⟨rfl, rfl, rfl, rfl, rfl, rfl, trivial⟩
                      ·
                        refine W_exit (X_then_exit (X_then_exit (X_block_exit (X_block (X_then ?_)))))
                        refine W.pre (K' := [(1, _), (9, _), (11, _), (13, _), (22, _), (23, _), (152, _)]) (L' := [(0, _), (1301, _), (1500, _), (1700, _), (1701, _), (1702, _)]) ?_ ⟨rfl, ⟨rfl, ⟨rfl, ⟨rfl, ⟨rfl, ⟨rfl, ⟨rfl, trivial⟩⟩⟩⟩⟩⟩⟩ ⟨rfl, ⟨rfl, ⟨rfl, ⟨rfl, ⟨rfl, ⟨rfl, trivial⟩⟩⟩⟩⟩⟩
                        refine W_join [1700, 1701, 1702] 1600 (refP gr room l1.reverse) rfl (by decide) (fun h hs => closeRef hg hke h1e ho hs) ?_
                        refine W_regL (WL_pure rfl rfl (by decide) (Pu_move rfl rfl) (WL_pure rfl rfl (by decide) (Pu_bin rfl rfl rfl (run_add _ _ _ _ _ (by omega))) (WL_pure rfl rfl (by decide) (Pu_assign rfl rfl) (WL_nil ?_))))
                        refine X_ren 1500 600 rfl ?_
                        refine X_ren 1600 700 rfl ?_
                        exact X_round (x.1 + 1, l1) trivial (by show 80 - (x.1 + 1) < 80 - x.1; omega) ⟨rfl, rfl, rfl, rfl, trivial⟩ ⟨rfl, rfl, rfl, trivial⟩
                  exact AHs_nil
                exact AHs_nil
              exact AHs_nil
            refine AHs_cons rfl rfl rfl (by decide) (OpT_buildOnes (r := 1001) [] rfl rfl Try.runUnderlying35 Try.sizeOf5 Try.zeroValue5 rfl rfl (by decide) rfl (by simp) (fun v92 => ⟨⟨rfl, ⟨rfl, trivial⟩⟩, ?_⟩)) ?_
            ·
              refine (AH_ready [9] (by kernel_rfl) (by decide) ?_)
              refine AHs_cons rfl rfl rfl (by decide) (OpT_call 1100 [0, 700, 701, 801, 1000, 1001] [] rfl Try.call12 rfl rfl rfl (by decide) (by decide) (key_spec (callAt calls x.1).2.1 _) (fun v91 Ps91 hR91 => ?_)) ?_
              ·
                obtain ⟨rfl, rfl⟩ := hR91
                refine ⟨⟨rfl, ⟨rfl, trivial⟩⟩, ?_⟩
                refine (AH_ready [12] (by kernel_rfl) (by decide) ?_)
                refine AHs_cons rfl rfl rfl (by decide) (OpT_append (r := 1001) (r2 := 801) (k1 := 0) rfl Try.underlying35 TI.hi5 TI.hz5 TI.hs5 TI.hby5 TI.hzs5 (by decide) rfl rfl rfl rfl (fun _ h => rowP_rd h) (bs_one _) (by unfold maxLen; omega) (by omega) (fun v94 => ?_)) ?_
                ·
                  refine ⟨⟨rfl, ⟨rfl, trivial⟩⟩, ?_⟩
                  refine (AH_ready [13] (by kernel_rfl) (by decide) ?_)
                  refine AHs_cons rfl rfl rfl (by decide) (OpT_call 1200 [0, 701, 801, 1000, 1001] [700] rfl Try.call16 rfl rfl rfl (by decide) (by decide) (refPut_spec gr room x.2.reverse (keyB (callAt calls x.1).2.1) (keyB_length _) v94 (List.replicate y (byte (x.1 : Int))) (by rw [List.length_replicate]; omega) _ (rd_star 4 rfl (fun h hp => rdP_cast (rowP_rd hp) (List.nil_append _) (by simp)))) (fun v95 Ps95 hR95 => ?_)) ?_
                  ·
                    obtain ⟨rfl, rfl⟩ := hR95
                    refine ⟨⟨rfl, ⟨rfl, trivial⟩⟩, ?_⟩
                    rw [List.reverse_reverse]
                    refine (AH_take 14 rfl (by kernel_rfl) (by kernel_rfl) (by kernel_rfl) rfl rfl (by decide) (Pu_bin rfl rfl rfl (run_neb _ _ _ Try.underlying4 _ _)) (AH_done (by kernel_rfl) (X_then ?_)))
                    refine W_false rfl (by simp) ?_
                    refine W_skip (X_then ?_)
                    refine W_seq ?_
                    refine W.pre (K' := [(1, _), (9, _), (11, _), (13, _), (14, _), (15, _), (16, _), (74, _), (96, _)]) (L' := [(0, _), (701, _), (801, _), (1000, _), (1001, _), (1200, _)]) ?_ ⟨rfl, ⟨rfl, ⟨rfl, ⟨rfl, ⟨rfl, ⟨rfl, ⟨rfl, ⟨rfl, ⟨rfl, trivial⟩⟩⟩⟩⟩⟩⟩⟩⟩ ⟨rfl, ⟨rfl, ⟨rfl, ⟨rfl, ⟨rfl, ⟨rfl, trivial⟩⟩⟩⟩⟩⟩
                    refine W_regL (WL_pure rfl rfl (by decide) (Pu_assign rfl rfl) (WL_nil (X_then ?_)))
                    refine W_block ?_
                    refine W_loop (α := Nat × List UInt8) (fun u => [(1, vc), (9, .pointer (some ⟨gc, 0, none⟩)), (11, .pointer (some ⟨gr, 0, none⟩)), (13, .int .i64 (x.1 : Int)), (15, v70), (17, .int .i64 (u.1 : Int))]) (fun u => [(0, orig Wo), (1000, cacheP gc room (putC room x.2 (keyB (callAt calls x.1).2.1) (List.replicate y (byte (x.1 : Int))))), (1200, refP gr room (putC room x.2 (keyB (callAt calls x.1).2.1) (List.replicate y (byte (x.1 : Int)))).reverse), (801, rowP 5 1 v70 y (bs u.2))]) (fun u => u.1 ≤ y ∧ u.2.length = y) (fun u => y - u.1) ((0, List.replicate y (byte (x.1 : Int)))) ⟨Nat.zero_le _, List.length_replicate⟩ ⟨rfl, ⟨rfl, ⟨rfl, ⟨rfl, ⟨rfl, ⟨rfl, trivial⟩⟩⟩⟩⟩⟩ ⟨rfl, ⟨rfl, ⟨rfl, ⟨rfl, trivial⟩⟩⟩⟩ (fun u hu => ?_)
                    obtain ⟨hu1, hu2⟩ := hu
                    refine W_seq ?_
                    refine W_seq ?_
                    refine W.pre (K' := [(1, _), (9, _), (11, _), (13, _), (15, _), (17, _)]) (L' := [(0, _), (801, _), (1000, _), (1200, _)]) ?_ ⟨rfl, ⟨rfl, ⟨rfl, ⟨rfl, ⟨rfl, ⟨rfl, trivial⟩⟩⟩⟩⟩⟩ ⟨rfl, ⟨rfl, ⟨rfl, ⟨rfl, trivial⟩⟩⟩⟩
                    refine W_regL (WL_pure rfl rfl (by decide) (Pu_move rfl rfl) (WL_pure rfl rfl (by decide) (Pu_move rfl rfl) (WL_pure rfl rfl (by decide) (Pu_len (r := 801) rfl Try.runUnderlying35 rfl rfl (fun _ h => rowP_rd h)) (WL_pure rfl rfl (by decide) (Pu_bin rfl rfl rfl (run_lss _ _ _ _ _ _)) (WL_nil (X_then ?_))))))
                    refine W_cond rfl (fun hc100 => ?_) (fun hc100 => ?_)
                    ·
                      have hj3 : u.1 < y := by have := of_decide_eq_true hc100; omega
                      refine W_skip (X_then ?_)
                      refine W_seq ?_
                      refine W_block ?_
                      refine W.pre (K' := [(1, _), (9, _), (11, _), (13, _), (15, _), (17, _), (100, _)]) (L' := [(0, _), (801, _), (1000, _), (1200, _)]) ?_ ⟨rfl, ⟨rfl, ⟨rfl, ⟨rfl, ⟨rfl, ⟨rfl, ⟨rfl, trivial⟩⟩⟩⟩⟩⟩⟩ ⟨rfl, ⟨rfl, ⟨rfl, ⟨rfl, trivial⟩⟩⟩⟩
                      refine W_regL (WL_pure rfl rfl (by decide) (Pu_move rfl rfl) (WL_pure rfl rfl (by decide) (Pu_move rfl rfl) (WL_pure rfl rfl (by decide) (Pu_idxS1 (r := 801) rfl Try.runUnderlying35 Try.sizeOf5 rfl rfl rfl (fun _ h => rowP_rd h) (by omega)) (WL_cons0 rfl rfl (OpT_storeS1 (r := 801) rfl Try.sizeOf5 rfl rfl rfl rfl (by rw [bs_length, hu2]; omega) rfl ?_)))))
                      refine (WL_nil (X_block (X_then ?_)))
                      refine W.pre (K' := [(1, _), (9, _), (11, _), (13, _), (15, _), (17, _), (100, _)]) (L' := [(0, _), (801, _), (1000, _), (1200, _)]) ?_ ⟨rfl, ⟨rfl, ⟨rfl, ⟨rfl, ⟨rfl, ⟨rfl, ⟨rfl, trivial⟩⟩⟩⟩⟩⟩⟩ ⟨rfl, ⟨rfl, ⟨rfl, ⟨rfl, trivial⟩⟩⟩⟩
                      refine W_regL (WL_pure rfl rfl (by decide) (Pu_move rfl rfl) (WL_pure rfl rfl (by decide) (Pu_bin rfl rfl rfl (run_add _ _ _ _ _ (by omega))) (WL_pure rfl rfl (by decide) (Pu_assign rfl rfl) (WL_nil ?_))))
                      exact X_round (u.1 + 1, u.2.set u.1 238) ⟨by show u.1 + 1 ≤ _; omega, by simp [hu2]⟩ (by show _ - (u.1 + 1) < _; omega) ⟨rfl, rfl, rfl, rfl, rfl, rfl, trivial⟩ ⟨rfl, rfl, rfl, look_eq rfl (by rw [show bs (u.2.set u.1 238) = (bs u.2).set u.1 (bv 238) by simp [bs, List.map_set]]; rfl), trivial⟩
                    ·
                      refine W_exit (X_then_exit (X_then_exit (X_block_exit (X_then ?_))))
                      refine W_seq ?_
                      refine W.pre (K' := [(1, _), (9, _), (11, _), (13, _), (15, _), (17, _), (100, _)]) (L' := [(0, _), (801, _), (1000, _), (1200, _)]) ?_ ⟨rfl, ⟨rfl, ⟨rfl, ⟨rfl, ⟨rfl, ⟨rfl, ⟨rfl, trivial⟩⟩⟩⟩⟩⟩⟩ ⟨rfl, ⟨rfl, ⟨rfl, ⟨rfl, trivial⟩⟩⟩⟩
                      obtain ⟨l1, hl1⟩ : ∃ l1, putC room x.2 (keyB (callAt calls x.1).2.1) (List.replicate y (byte (x.1 : Int))) = l1 := ⟨_, rfl⟩
                      rw [hl1]
                      refine W_regL (WL_pure rfl rfl (by decide) (Pu_move rfl rfl) (WL_cons rfl rfl (by decide) (OpT_call 1300 [0, 801, 1200] [1000] rfl Try.call14 rfl rfl rfl (by decide) (by decide) (keys_spec gc room l1 _) (fun v133 Ps133 hR133 => ?_))))
                      subst hR133
                      refine (WL_pure rfl rfl (by decide) (Pu_assign rfl rfl) (WL_nil (X_then ?_)))
                      refine W_seq ?_
                      refine W_seq ?_
                      refine W.pre (K' := [(1, _), (9, _), (11, _), (13, _), (15, _), (17, _), (22, _), (100, _)]) (L' := [(0, _), (801, _), (1200, _), (1300, _), (1301, _)]) ?_ ⟨rfl, ⟨rfl, ⟨rfl, ⟨rfl, ⟨rfl, ⟨rfl, ⟨rfl, ⟨rfl, trivial⟩⟩⟩⟩⟩⟩⟩⟩ ⟨rfl, ⟨rfl, ⟨rfl, ⟨rfl, ⟨rfl, trivial⟩⟩⟩⟩⟩
                      refine W_openRef 1200 1400 rfl (fun v es hg hke h1e ho => ?_)
                      refine W_regL (WL_pure rfl rfl (by decide) (Pu_move rfl rfl) (WL_pure rfl rfl (by decide) (Pu_len (r := 1301) rfl Try.runUnderlying37 rfl rfl rowI_rd) (WL_pure rfl rfl (by decide) (Pu_move rfl rfl) (WL_pure rfl rfl (by decide) (Pu_nilCheck rfl rfl) (WL_pure rfl rfl (by decide) (Pu_fieldAddrB (off := 1) rfl rfl (by kernel_rfl)) (WL_pure rfl rfl (by decide) (Pu_loadB (r := 1400) rfl Try.isAgg47 rfl rfl rfl) (WL_pure rfl rfl (by decide) (Pu_len (r := 1401) rfl Try.runUnderlying47 rfl rfl (fun _ h => rowP_rd h)) ?_)))))))
                      refine WL_join [1400, 1401, 1402] 1200 (refP gr room l1.reverse) rfl (by decide) (fun h hs => closeRef hg hke h1e ho hs) ?_
                      refine (WL_pure rfl rfl (by decide) (Pu_bin rfl rfl rfl (run_neq _ _ _ _ _ _)) (WL_pure rfl rfl (by decide) (Pu_move rfl rfl) (WL_gPT rfl rfl rfl (by simp [keys]) rfl (by decide) (Pu_move rfl rfl) (WL_gT rfl rfl rfl (by simp [keys]) rfl (by decide) (OpT_call 1500 [0, 801, 1200, 1301] [1300] rfl Try.call13 rfl rfl rfl (by decide) (by decide) (total_spec gc room l1 _) (fun v144 Ps144 hR144 => ?_))))))
                      obtain ⟨rfl, rfl⟩ := hR144
                      refine (WL_gPT rfl rfl rfl (by simp [keys]) rfl (by decide) (Pu_move rfl rfl) (WL_gT rfl rfl rfl (by simp [keys]) rfl (by decide) (OpT_call 1600 [0, 801, 1301, 1500] [1200] rfl Try.call19 rfl rfl rfl (by decide) (by decide) (refTotal_spec gr room l1.reverse _) (fun v146 Ps146 hR146 => ?_))))
                      obtain ⟨rfl, rfl⟩ := hR146
                      refine (WL_gPT rfl rfl rfl (by simp [keys]) rfl (by decide) (Pu_bin rfl rfl rfl (run_neq _ _ _ _ _ _)) (WL_pure rfl rfl (by decide) (Pu_pickF rfl rfl (by simp [keys]) rfl) (WL_nil (X_then ?_))))
                      refine W_false rfl (by rw [total_reverse]; simp) ?_
                      refine W_skip (X_then ?_)
                      refine W_seq ?_
                      refine W.pre (K' := [(1, _), (9, _), (11, _), (13, _), (15, _), (17, _), (22, _), (100, _), (148, _)]) (L' := [(0, _), (801, _), (1301, _), (1500, _), (1600, _)]) ?_ ⟨rfl, ⟨rfl, ⟨rfl, ⟨rfl, ⟨rfl, ⟨rfl, ⟨rfl, ⟨rfl, ⟨rfl, trivial⟩⟩⟩⟩⟩⟩⟩⟩⟩ ⟨rfl, ⟨rfl, ⟨rfl, ⟨rfl, ⟨rfl, trivial⟩⟩⟩⟩⟩
                      refine W_openRef 1600 1700 rfl (fun v es hg hke h1e ho => ?_)
                      have hidsR : Ids (keys l1).reverse := fun y hy => hg.ids y (by rw [List.reverse_reverse]; exact List.mem_reverse.1 hy)
                      have hids : Ids (es.map (·.1)) := fun y hy => hidsR y (by rw [hke, keys_reverse] at hy; exact hy)
                      have hel : es.length = (keys l1).reverse.length := by have := congrArg List.length hke; simpa [keys] using this
                      refine W_regL (WL_pure rfl rfl (by decide) (Pu_assign rfl rfl) (WL_nil (X_then ?_)))
                      refine W_block ?_
                      refine W_loop (α := Nat) (fun w => [(1, vc), (9, .pointer (some ⟨gc, 0, none⟩)), (11, .pointer (some ⟨gr, 0, none⟩)), (13, .int .i64 (x.1 : Int)), (22, v133), (23, .int .i64 (w : Int))]) (fun w => [(0, orig Wo), (1500, cacheP gc room l1), (1700, blk gr 49 [.int .i64 (room : Int), v]), (1701, rowP 51 33 v l1.reverse.length (onesC es)), (1702, dataR es l1.reverse), (1301, rowI 33 v133 (keys l1).reverse)]) (fun w => w ≤ (keys l1).reverse.length) (fun w => (keys l1).reverse.length - w) (0) (Nat.zero_le _) ⟨rfl, ⟨rfl, ⟨rfl, ⟨rfl, ⟨rfl, ⟨rfl, trivial⟩⟩⟩⟩⟩⟩ ⟨rfl, ⟨rfl, ⟨rfl, ⟨rfl, ⟨rfl, ⟨rfl, trivial⟩⟩⟩⟩⟩⟩ (fun w hw => ?_)
                      refine W_seq ?_
                      refine W_seq ?_
                      refine W.pre (K' := [(1, _), (9, _), (11, _), (13, _), (22, _), (23, _)]) (L' := [(0, _), (1301, _), (1500, _), (1700, _), (1701, _), (1702, _)]) ?_ ⟨rfl, ⟨rfl, ⟨rfl, ⟨rfl, ⟨rfl, ⟨rfl, trivial⟩⟩⟩⟩⟩⟩ ⟨rfl, ⟨rfl, ⟨rfl, ⟨rfl, ⟨rfl, ⟨rfl, trivial⟩⟩⟩⟩⟩⟩
                      refine W_regL (WL_pure rfl rfl (by decide) (Pu_move rfl rfl) (WL_pure rfl rfl (by decide) (Pu_move rfl rfl) (WL_pure rfl rfl (by decide) (Pu_len (r := 1301) rfl Try.runUnderlying37 rfl rfl rowI_rd) (WL_pure rfl rfl (by decide) (Pu_bin rfl rfl rfl (run_lss _ _ _ _ _ _)) (WL_nil (X_then ?_))))))
                      refine W_cond rfl (fun hc152 => ?_) (fun hc152 => ?_)
                      ·
                        have hlt : w < (keys l1).reverse.length := by have := of_decide_eq_true hc152; omega
                        obtain ⟨p, hp⟩ : ∃ p, es[w]? = some p := ⟨_, List.getElem?_eq_getElem (by omega)⟩
                        obtain ⟨hp32, hp1, hp2, hp3⟩ := onesC_of hids hp
                        have hid := hidsR.get hlt
                        have hpe : (keys l1).reverse.getD w [] = p.1 := by have h0 := congrArg (fun m => m.getD w []) hke; simp only [keys_reverse] at h0; rw [← h0]; simp [hp]
                        refine W_skip (X_then ?_)
                        refine W_seq ?_
                        refine W_block ?_
                        refine W_seq ?_
                        refine W.pre (K' := [(1, _), (9, _), (11, _), (13, _), (22, _), (23, _), (152, _)]) (L' := [(0, _), (1301, _), (1500, _), (1700, _), (1701, _), (1702, _)]) ?_ ⟨rfl, ⟨rfl, ⟨rfl, ⟨rfl, ⟨rfl, ⟨rfl, ⟨rfl, trivial⟩⟩⟩⟩⟩⟩⟩ ⟨rfl, ⟨rfl, ⟨rfl, ⟨rfl, ⟨rfl, ⟨rfl, trivial⟩⟩⟩⟩⟩⟩
                        refine W_draw (N := 13) (by kernel_rfl) rfl [(0, _), (1700, _), (1301, _), (1701, _)] ⟨rfl, ⟨rfl, ⟨rfl, ⟨rfl, trivial⟩⟩⟩⟩ ?_
                        refine (AH_take 0 rfl (by kernel_rfl) (by kernel_rfl) (by kernel_rfl) rfl rfl (by decide) (Pu_move rfl rfl) (AH_take 1 rfl (by kernel_rfl) (by kernel_rfl) (by kernel_rfl) rfl rfl (by decide) (Pu_move rfl rfl) (AH_take 2 rfl (by kernel_rfl) (by kernel_rfl) (by kernel_rfl) rfl rfl (by decide) (Pu_idxS (r := 1301) rfl Try.runUnderlying37 Try.sizeOf33 rfl rfl rfl rowI_rd (by omega)) (AH_take 3 rfl (by kernel_rfl) (by kernel_rfl) (by kernel_rfl) rfl rfl (by decide) (Pu_loadSN (r := 1301) rfl Try.isAgg33 Try.sizeOf33 rfl rfl rowI_rd ((bs_length _).trans hid) (by decide) (idsC_get (k := w) hidsR hlt)) (AH_take 4 rfl (by kernel_rfl) (by kernel_rfl) (by kernel_rfl) rfl rfl (by decide) (Pu_move rfl rfl) (AH_take 5 rfl (by kernel_rfl) (by kernel_rfl) (by kernel_rfl) rfl rfl (by decide) (Pu_nilCheck rfl rfl) (AH_take 6 rfl (by kernel_rfl) (by kernel_rfl) (by kernel_rfl) rfl rfl (by decide) (Pu_fieldAddrB (off := 1) rfl rfl (by kernel_rfl)) (AH_take 7 rfl (by kernel_rfl) (by kernel_rfl) (by kernel_rfl) rfl rfl (by decide) (Pu_loadB (r := 1700) rfl Try.isAgg47 rfl rfl rfl) (AH_take 8 rfl (by kernel_rfl) (by kernel_rfl) (by kernel_rfl) rfl rfl (by decide) (Pu_move rfl rfl) (AH_take 9 rfl (by kernel_rfl) (by kernel_rfl) (by kernel_rfl) rfl rfl (by decide) (Pu_idxS (r := 1701) rfl Try.runUnderlying47 Try.sizeOf51 rfl rfl rfl (fun _ h => rowP_rd h) (by rw [List.length_reverse]; rw [List.length_reverse, keys_length] at hlt; omega)) (AH_take 10 rfl (by kernel_rfl) (by kernel_rfl) (by kernel_rfl) rfl rfl (by decide) (Pu_fieldAddrE (off := 0) rfl rfl (by kernel_rfl)) (AH_take 11 rfl (by kernel_rfl) (by kernel_rfl) (by kernel_rfl) rfl rfl (by decide) (Pu_loadSN (r := 1701) rfl Try.isAgg33 Try.sizeOf33 rfl rfl (fun _ h => rowP_rd h) ((bs_length _).trans hp32) (by decide) hp2) (AH_take 12 rfl (by kernel_rfl) (by kernel_rfl) (by kernel_rfl) rfl rfl (by decide) (Pu_bin rfl rfl rfl (run_idNe _ _ hid hp32 _ _)) (AH_done (by kernel_rfl) (X_then ?_)))))))))))))))
                        refine W_false rfl (by rw [hpe]; simp) ?_
                        refine W_skip (X_block (X_then ?_))
                        refine W.pre (K' := [(1, _), (9, _), (11, _), (13, _), (22, _), (23, _), (152, _), (167, _)]) (L' := [(0, _), (1301, _), (1500, _), (1700, _), (1701, _), (1702, _)]) ?_ ⟨rfl, ⟨rfl, ⟨rfl, ⟨rfl, ⟨rfl, ⟨rfl, ⟨rfl, ⟨rfl, trivial⟩⟩⟩⟩⟩⟩⟩⟩ ⟨rfl, ⟨rfl, ⟨rfl, ⟨rfl, ⟨rfl, ⟨rfl, trivial⟩⟩⟩⟩⟩⟩
                        refine W_regL (WL_pure rfl rfl (by decide) (Pu_move rfl rfl) (WL_pure rfl rfl (by decide) (Pu_bin rfl rfl rfl (run_add _ _ _ _ _ (by have : (keys l1).reverse.length ≤ 1073741824 := (by rw [List.length_reverse, keys_length]; have := hg.len; simpa using this); omega))) (WL_pure rfl rfl (by decide) (Pu_assign rfl rfl) (WL_nil ?_))))
                        exact X_round (w + 1) (by omega) (by omega) ⟨rfl, rfl, rfl, rfl, rfl, rfl, trivial⟩ ⟨rfl, rfl, rfl, rfl, rfl, rfl, trivial⟩
                      ·
                        refine W_exit (X_then_exit (X_then_exit (X_block_exit (X_block (X_then ?_)))))
                        refine W.pre (K' := [(1, _), (9, _), (11, _), (13, _), (22, _), (23, _), (152, _)]) (L' := [(0, _), (1301, _), (1500, _), (1700, _), (1701, _), (1702, _)]) ?_ ⟨rfl, ⟨rfl, ⟨rfl, ⟨rfl, ⟨rfl, ⟨rfl, ⟨rfl, trivial⟩⟩⟩⟩⟩⟩⟩ ⟨rfl, ⟨rfl, ⟨rfl, ⟨rfl, ⟨rfl, ⟨rfl, trivial⟩⟩⟩⟩⟩⟩
                        refine W_join [1700, 1701, 1702] 1600 (refP gr room l1.reverse) rfl (by decide) (fun h hs => closeRef hg hke h1e ho hs) ?_
                        refine W_regL (WL_pure rfl rfl (by decide) (Pu_move rfl rfl) (WL_pure rfl rfl (by decide) (Pu_bin rfl rfl rfl (run_add _ _ _ _ _ (by omega))) (WL_pure rfl rfl (by decide) (Pu_assign rfl rfl) (WL_nil ?_))))
                        refine X_ren 1500 600 rfl ?_
                        refine X_ren 1600 700 rfl ?_
                        exact X_round (x.1 + 1, l1) trivial (by show 80 - (x.1 + 1) < 80 - x.1; omega) ⟨rfl, rfl, rfl, rfl, trivial⟩ ⟨rfl, rfl, rfl, trivial⟩
                  exact AHs_nil
                exact AHs_nil
              exact AHs_nil
            exact AHs_nil
          refine AHs_cons rfl rfl rfl (by decide) (OpT_buildOnes (r := 901) [] rfl rfl Try.runUnderlying35 Try.sizeOf5 Try.zeroValue5 rfl rfl (by decide) rfl (by simp) (fun v92 => ⟨⟨rfl, ⟨rfl, trivial⟩⟩, ?_⟩)) ?_
          ·
            refine (AH_ready [5] (by kernel_rfl) (by decide) ?_)
            refine AHs_cons rfl rfl rfl (by decide) (OpT_call 1000 [0, 700, 701, 801, 901] [600] rfl Try.call11 rfl rfl rfl (by decide) (by decide) (put_spec gc room x.2 (keyB (callAt calls x.1).2.1) (keyB_length _) v70 (List.replicate y (byte (x.1 : Int))) _ (rd_star 3 rfl (fun h hp => rdP_cast (rowP_rd hp) rfl (List.length_replicate).symm))) (fun v87 Ps87 hR87 => ?_)) ?_
            ·
              obtain ⟨rfl, rfl⟩ := hR87
              refine ⟨⟨rfl, ⟨rfl, trivial⟩⟩, ?_⟩
              refine (AH_ready [9] (by kernel_rfl) (by decide) ?_)
              refine AHs_cons rfl rfl rfl (by decide) (OpT_call 1100 [0, 700, 701, 801, 901, 1000] [] rfl Try.call12 rfl rfl rfl (by decide) (by decide) (key_spec (callAt calls x.1).2.1 _) (fun v91 Ps91 hR91 => ?_)) ?_
              ·
                obtain ⟨rfl, rfl⟩ := hR91
                refine ⟨⟨rfl, ⟨rfl, trivial⟩⟩, ?_⟩
                refine (AH_ready [12] (by kernel_rfl) (by decide) ?_)
                refine AHs_cons rfl rfl rfl (by decide) (OpT_append (r := 901) (r2 := 801) (k1 := 0) rfl Try.underlying35 TI.hi5 TI.hz5 TI.hs5 TI.hby5 TI.hzs5 (by decide) rfl rfl rfl rfl (fun _ h => rowP_rd h) (bs_one _) (by unfold maxLen; omega) (by omega) (fun v94 => ?_)) ?_
                ·
                  refine ⟨⟨rfl, ⟨rfl, trivial⟩⟩, ?_⟩
                  refine (AH_ready [13] (by kernel_rfl) (by decide) ?_)
                  refine AHs_cons rfl rfl rfl (by decide) (OpT_call 1200 [0, 701, 801, 901, 1000] [700] rfl Try.call16 rfl rfl rfl (by decide) (by decide) (refPut_spec gr room x.2.reverse (keyB (callAt calls x.1).2.1) (keyB_length _) v94 (List.replicate y (byte (x.1 : Int))) (by rw [List.length_replicate]; omega) _ (rd_star 3 rfl (fun h hp => rdP_cast (rowP_rd hp) (List.nil_append _) (by simp)))) (fun v95 Ps95 hR95 => ?_)) ?_
                  ·
                    obtain ⟨rfl, rfl⟩ := hR95
                    refine ⟨⟨rfl, ⟨rfl, trivial⟩⟩, ?_⟩
                    rw [List.reverse_reverse]
                    refine (AH_take 14 rfl (by kernel_rfl) (by kernel_rfl) (by kernel_rfl) rfl rfl (by decide) (Pu_bin rfl rfl rfl (run_neb _ _ _ Try.underlying4 _ _)) (AH_done (by kernel_rfl) (X_then ?_)))
                    refine W_false rfl (by simp) ?_
                    refine W_skip (X_then ?_)
                    refine W_seq ?_
                    refine W.pre (K' := [(1, _), (9, _), (11, _), (13, _), (14, _), (15, _), (16, _), (74, _), (96, _)]) (L' := [(0, _), (701, _), (801, _), (901, _), (1000, _), (1200, _)]) ?_ ⟨rfl, ⟨rfl, ⟨rfl, ⟨rfl, ⟨rfl, ⟨rfl, ⟨rfl, ⟨rfl, ⟨rfl, trivial⟩⟩⟩⟩⟩⟩⟩⟩⟩ ⟨rfl, ⟨rfl, ⟨rfl, ⟨rfl, ⟨rfl, ⟨rfl, trivial⟩⟩⟩⟩⟩⟩
                    refine W_regL (WL_pure rfl rfl (by decide) (Pu_assign rfl rfl) (WL_nil (X_then ?_)))
                    refine W_block ?_
                    refine W_loop (α := Nat × List UInt8) (fun u => [(1, vc), (9, .pointer (some ⟨gc, 0, none⟩)), (11, .pointer (some ⟨gr, 0, none⟩)), (13, .int .i64 (x.1 : Int)), (15, v70), (17, .int .i64 (u.1 : Int))]) (fun u => [(0, orig Wo), (1000, cacheP gc room (putC room x.2 (keyB (callAt calls x.1).2.1) (List.replicate y (byte (x.1 : Int))))), (1200, refP gr room (putC room x.2 (keyB (callAt calls x.1).2.1) (List.replicate y (byte (x.1 : Int)))).reverse), (801, rowP 5 1 v70 y (bs u.2))]) (fun u => u.1 ≤ y ∧ u.2.length = y) (fun u => y - u.1) ((0, List.replicate y (byte (x.1 : Int)))) ⟨Nat.zero_le _, List.length_replicate⟩ ⟨rfl, ⟨rfl, ⟨rfl, ⟨rfl, ⟨rfl, ⟨rfl, trivial⟩⟩⟩⟩⟩⟩ ⟨rfl, ⟨rfl, ⟨rfl, ⟨rfl, trivial⟩⟩⟩⟩ (fun u hu => ?_)
                    obtain ⟨hu1, hu2⟩ := hu
                    refine W_seq ?_
                    refine W_seq ?_
                    refine W.pre (K' := [(1, _), (9, _), (11, _), (13, _), (15, _), (17, _)]) (L' := [(0, _), (801, _), (1000, _), (1200, _)]) ?_ ⟨rfl, ⟨rfl, ⟨rfl, ⟨rfl, ⟨rfl, ⟨rfl, trivial⟩⟩⟩⟩⟩⟩ ⟨rfl, ⟨rfl, ⟨rfl, ⟨rfl, trivial⟩⟩⟩⟩
                    refine W_regL (WL_pure rfl rfl (by decide) (Pu_move rfl rfl) (WL_pure rfl rfl (by decide) (Pu_move rfl rfl) (WL_pure rfl rfl (by decide) (Pu_len (r := 801) rfl Try.runUnderlying35 rfl rfl (fun _ h => rowP_rd h)) (WL_pure rfl rfl (by decide) (Pu_bin rfl rfl rfl (run_lss _ _ _ _ _ _)) (WL_nil (X_then ?_))))))
                    refine W_cond rfl (fun hc100 => ?_) (fun hc100 => ?_)
                    ·
                      have hj3 : u.1 < y := by have := of_decide_eq_true hc100; omega
                      refine W_skip (X_then ?_)
                      refine W_seq ?_
                      refine W_block ?_
                      refine W.pre (K' := [(1, _), (9, _), (11, _), (13, _), (15, _), (17, _), (100, _)]) (L' := [(0, _), (801, _), (1000, _), (1200, _)]) ?_ ⟨rfl, ⟨rfl, ⟨rfl, ⟨rfl, ⟨rfl, ⟨rfl, ⟨rfl, trivial⟩⟩⟩⟩⟩⟩⟩ ⟨rfl, ⟨rfl, ⟨rfl, ⟨rfl, trivial⟩⟩⟩⟩
                      refine W_regL (WL_pure rfl rfl (by decide) (Pu_move rfl rfl) (WL_pure rfl rfl (by decide) (Pu_move rfl rfl) (WL_pure rfl rfl (by decide) (Pu_idxS1 (r := 801) rfl Try.runUnderlying35 Try.sizeOf5 rfl rfl rfl (fun _ h => rowP_rd h) (by omega)) (WL_cons0 rfl rfl (OpT_storeS1 (r := 801) rfl Try.sizeOf5 rfl rfl rfl rfl (by rw [bs_length, hu2]; omega) rfl ?_)))))
                      refine (WL_nil (X_block (X_then ?_)))
                      refine W.pre (K' := [(1, _), (9, _), (11, _), (13, _), (15, _), (17, _), (100, _)]) (L' := [(0, _), (801, _), (1000, _), (1200, _)]) ?_ ⟨rfl, ⟨rfl, ⟨rfl, ⟨rfl, ⟨rfl, ⟨rfl, ⟨rfl, trivial⟩⟩⟩⟩⟩⟩⟩ ⟨rfl, ⟨rfl, ⟨rfl, ⟨rfl, trivial⟩⟩⟩⟩
                      refine W_regL (WL_pure rfl rfl (by decide) (Pu_move rfl rfl) (WL_pure rfl rfl (by decide) (Pu_bin rfl rfl rfl (run_add _ _ _ _ _ (by omega))) (WL_pure rfl rfl (by decide) (Pu_assign rfl rfl) (WL_nil ?_))))
                      exact X_round (u.1 + 1, u.2.set u.1 238) ⟨by show u.1 + 1 ≤ _; omega, by simp [hu2]⟩ (by show _ - (u.1 + 1) < _; omega) ⟨rfl, rfl, rfl, rfl, rfl, rfl, trivial⟩ ⟨rfl, rfl, rfl, look_eq rfl (by rw [show bs (u.2.set u.1 238) = (bs u.2).set u.1 (bv 238) by simp [bs, List.map_set]]; rfl), trivial⟩
                    ·
                      refine W_exit (X_then_exit (X_then_exit (X_block_exit (X_then ?_))))
                      refine W_seq ?_
                      refine W.pre (K' := [(1, _), (9, _), (11, _), (13, _), (15, _), (17, _), (100, _)]) (L' := [(0, _), (801, _), (1000, _), (1200, _)]) ?_ ⟨rfl, ⟨rfl, ⟨rfl, ⟨rfl, ⟨rfl, ⟨rfl, ⟨rfl, trivial⟩⟩⟩⟩⟩⟩⟩ ⟨rfl, ⟨rfl, ⟨rfl, ⟨rfl, trivial⟩⟩⟩⟩
                      obtain ⟨l1, hl1⟩ : ∃ l1, putC room x.2 (keyB (callAt calls x.1).2.1) (List.replicate y (byte (x.1 : Int))) = l1 := ⟨_, rfl⟩
                      rw [hl1]
                      refine W_regL (WL_pure rfl rfl (by decide) (Pu_move rfl rfl) (WL_cons rfl rfl (by decide) (OpT_call 1300 [0, 801, 1200] [1000] rfl Try.call14 rfl rfl rfl (by decide) (by decide) (keys_spec gc room l1 _) (fun v133 Ps133 hR133 => ?_))))
                      subst hR133
                      refine (WL_pure rfl rfl (by decide) (Pu_assign rfl rfl) (WL_nil (X_then ?_)))
                      refine W_seq ?_
                      refine W_seq ?_
                      refine W.pre (K' := [(1, _), (9, _), (11, _), (13, _), (15, _), (17, _), (22, _), (100, _)]) (L' := [(0, _), (801, _), (1200, _), (1300, _), (1301, _)]) ?_ ⟨rfl, ⟨rfl, ⟨rfl, ⟨rfl, ⟨rfl, ⟨rfl, ⟨rfl, ⟨rfl, trivial⟩⟩⟩⟩⟩⟩⟩⟩ ⟨rfl, ⟨rfl, ⟨rfl, ⟨rfl, ⟨rfl, trivial⟩⟩⟩⟩⟩
                      refine W_openRef 1200 1400 rfl (fun v es hg hke h1e ho => ?_)
                      refine W_regL (WL_pure rfl rfl (by decide) (Pu_move rfl rfl) (WL_pure rfl rfl (by decide) (Pu_len (r := 1301) rfl Try.runUnderlying37 rfl rfl rowI_rd) (WL_pure rfl rfl (by decide) (Pu_move rfl rfl) (WL_pure rfl rfl (by decide) (Pu_nilCheck rfl rfl) (WL_pure rfl rfl (by decide) (Pu_fieldAddrB (off := 1) rfl rfl (by kernel_rfl)) (WL_pure rfl rfl (by decide) (Pu_loadB (r := 1400) rfl Try.isAgg47 rfl rfl rfl) (WL_pure rfl rfl (by decide) (Pu_len (r := 1401) rfl Try.runUnderlying47 rfl rfl (fun _ h => rowP_rd h)) ?_)))))))
                      refine WL_join [1400, 1401, 1402] 1200 (refP gr room l1.reverse) rfl (by decide) (fun h hs => closeRef hg hke h1e ho hs) ?_
                      refine (WL_pure rfl rfl (by decide) (Pu_bin rfl rfl rfl (run_neq _ _ _ _ _ _)) (WL_pure rfl rfl (by decide) (Pu_move rfl rfl) (WL_gPT rfl rfl rfl (by simp [keys]) rfl (by decide) (Pu_move rfl rfl) (WL_gT rfl rfl rfl (by simp [keys]) rfl (by decide) (OpT_call 1500 [0, 801, 1200, 1301] [1300] rfl Try.call13 rfl rfl rfl (by decide) (by decide) (total_spec gc room l1 _) (fun v144 Ps144 hR144 => ?_))))))
                      obtain ⟨rfl, rfl⟩ := hR144
                      refine (WL_gPT rfl rfl rfl (by simp [keys]) rfl (by decide) (Pu_move rfl rfl) (WL_gT rfl rfl rfl (by simp [keys]) rfl (by decide) (OpT_call 1600 [0, 801, 1301, 1500] [1200] rfl Try.call19 rfl rfl rfl (by decide) (by decide) (refTotal_spec gr room l1.reverse _) (fun v146 Ps146 hR146 => ?_))))
                      obtain ⟨rfl, rfl⟩ := hR146
                      refine (WL_gPT rfl rfl rfl (by simp [keys]) rfl (by decide) (Pu_bin rfl rfl rfl (run_neq _ _ _ _ _ _)) (WL_pure rfl rfl (by decide) (Pu_pickF rfl rfl (by simp [keys]) rfl) (WL_nil (X_then ?_))))
                      refine W_false rfl (by rw [total_reverse]; simp) ?_
                      refine W_skip (X_then ?_)
                      refine W_seq ?_
                      refine W.pre (K' := [(1, _), (9, _), (11, _), (13, _), (15, _), (17, _), (22, _), (100, _), (148, _)]) (L' := [(0, _), (801, _), (1301, _), (1500, _), (1600, _)]) ?_ ⟨rfl, ⟨rfl, ⟨rfl, ⟨rfl, ⟨rfl, ⟨rfl, ⟨rfl, ⟨rfl, ⟨rfl, trivial⟩⟩⟩⟩⟩⟩⟩⟩⟩ ⟨rfl, ⟨rfl, ⟨rfl, ⟨rfl, ⟨rfl, trivial⟩⟩⟩⟩⟩
                      refine W_openRef 1600 1700 rfl (fun v es hg hke h1e ho => ?_)
                      have hidsR : Ids (keys l1).reverse := fun y hy => hg.ids y (by rw [List.reverse_reverse]; exact List.mem_reverse.1 hy)
                      have hids : Ids (es.map (·.1)) := fun y hy => hidsR y (by rw [hke, keys_reverse] at hy; exact hy)
                      have hel : es.length = (keys l1).reverse.length := by have := congrArg List.length hke; simpa [keys] using this
                      refine W_regL (WL_pure rfl rfl (by decide) (Pu_assign rfl rfl) (WL_nil (X_then ?_)))
                      refine W_block ?_
                      refine W_loop (α := Nat) (fun w => [(1, vc), (9, .pointer (some ⟨gc, 0, none⟩)), (11, .pointer (some ⟨gr, 0, none⟩)), (13, .int .i64 (x.1 : Int)), (22, v133), (23, .int .i64 (w : Int))]) (fun w => [(0, orig Wo), (1500, cacheP gc room l1), (1700, blk gr 49 [.int .i64 (room : Int), v]), (1701, rowP 51 33 v l1.reverse.length (onesC es)), (1702, dataR es l1.reverse), (1301, rowI 33 v133 (keys l1).reverse)]) (fun w => w ≤ (keys l1).reverse.length) (fun w => (keys l1).reverse.length - w) (0) (Nat.zero_le _) ⟨rfl, ⟨rfl, ⟨rfl, ⟨rfl, ⟨rfl, ⟨rfl, trivial⟩⟩⟩⟩⟩⟩ ⟨rfl, ⟨rfl, ⟨rfl, ⟨rfl, ⟨rfl, ⟨rfl, trivial⟩⟩⟩⟩⟩⟩ (fun w hw => ?_)
                      refine W_seq ?_
                      refine W_seq ?_
                      refine W.pre (K' := [(1, _), (9, _), (11, _), (13, _), (22, _), (23, _)]) (L' := [(0, _), (1301, _), (1500, _), (1700, _), (1701, _), (1702, _)]) ?_ ⟨rfl, ⟨rfl, ⟨rfl, ⟨rfl, ⟨rfl, ⟨rfl, trivial⟩⟩⟩⟩⟩⟩ ⟨rfl, ⟨rfl, ⟨rfl, ⟨rfl, ⟨rfl, ⟨rfl, trivial⟩⟩⟩⟩⟩⟩
                      refine W_regL (WL_pure rfl rfl (by decide) (Pu_move rfl rfl) (WL_pure rfl rfl (by decide) (Pu_move rfl rfl) (WL_pure rfl rfl (by decide) (Pu_len (r := 1301) rfl Try.runUnderlying37 rfl rfl rowI_rd) (WL_pure rfl rfl (by decide) (Pu_bin rfl rfl rfl (run_lss _ _ _ _ _ _)) (WL_nil (X_then ?_))))))
                      refine W_cond rfl (fun hc152 => ?_) (fun hc152 => ?_)
                      ·
                        have hlt : w < (keys l1).reverse.length := by have := of_decide_eq_true hc152; omega
                        obtain ⟨p, hp⟩ : ∃ p, es[w]? = some p := ⟨_, List.getElem?_eq_getElem (by omega)⟩
                        obtain ⟨hp32, hp1, hp2, hp3⟩ := onesC_of hids hp
                        have hid := hidsR.get hlt
                        have hpe : (keys l1).reverse.getD w [] = p.1 := by have h0 := congrArg (fun m => m.getD w []) hke; simp only [keys_reverse] at h0; rw [← h0]; simp [hp]
                        refine W_skip (X_then ?_)
                        refine W_seq ?_
                        refine W_block ?_
                        refine W_seq ?_
                        refine W.pre (K' := [(1, _), (9, _), (11, _), (13, _), (22, _), (23, _), (152, _)]) (L' := [(0, _), (1301, _), (1500, _), (1700, _), (1701, _), (1702, _)]) ?_ ⟨rfl, ⟨rfl, ⟨rfl, ⟨rfl, ⟨rfl, ⟨rfl, ⟨rfl, trivial⟩⟩⟩⟩⟩⟩⟩ ⟨rfl, ⟨rfl, ⟨rfl, ⟨rfl, ⟨rfl, ⟨rfl, trivial⟩⟩⟩⟩⟩⟩
                        refine W_draw (N := 13) (by kernel_rfl) rfl [(0, _), (1700, _), (1301, _), (1701, _)] ⟨rfl, ⟨rfl, ⟨rfl, ⟨rfl, trivial⟩⟩⟩⟩ ?_
                        refine (AH_take 0 rfl (by kernel_rfl) (by kernel_rfl) (by kernel_rfl) rfl rfl (by decide) (Pu_move rfl rfl) (AH_take 1 rfl (by kernel_rfl) (by kernel_rfl) (by kernel_rfl) rfl rfl (by decide) (Pu_move rfl rfl) (AH_take 2 rfl (by kernel_rfl) (by kernel_rfl) (by kernel_rfl) rfl rfl (by decide) (Pu_idxS (r := 1301) rfl Try.runUnderlying37 Try.sizeOf33 rfl rfl rfl rowI_rd (by omega)) (AH_take 3 rfl (by kernel_rfl) (by kernel_rfl) (by kernel_rfl) rfl rfl (by decide) (Pu_loadSN (r := 1301) rfl Try.isAgg33 Try.sizeOf33 rfl rfl rowI_rd ((bs_length _).trans hid) (by decide) (idsC_get (k := w) hidsR hlt)) (AH_take 4 rfl (by kernel_rfl) (by kernel_rfl) (by kernel_rfl) rfl rfl (by decide) (Pu_move rfl rfl) (AH_take 5 rfl (by kernel_rfl) (by kernel_rfl) (by kernel_rfl) rfl rfl (by decide) (Pu_nilCheck rfl rfl) (AH_take 6 rfl (by kernel_rfl) (by kernel_rfl) (by kernel_rfl) rfl rfl (by decide) (Pu_fieldAddrB (off := 1) rfl rfl (by kernel_rfl)) (AH_take 7 rfl (by kernel_rfl) (by kernel_rfl) (by kernel_rfl) rfl rfl (by decide) (Pu_loadB (r := 1700) rfl Try.isAgg47 rfl rfl rfl) (AH_take 8 rfl (by kernel_rfl) (by kernel_rfl) (by kernel_rfl) rfl rfl (by decide) (Pu_move rfl rfl) (AH_take 9 rfl (by kernel_rfl) (by kernel_rfl) (by kernel_rfl) rfl rfl (by decide) (Pu_idxS (r := 1701) rfl Try.runUnderlying47 Try.sizeOf51 rfl rfl rfl (fun _ h => rowP_rd h) (by rw [List.length_reverse]; rw [List.length_reverse, keys_length] at hlt; omega)) (AH_take 10 rfl (by kernel_rfl) (by kernel_rfl) (by kernel_rfl) rfl rfl (by decide) (Pu_fieldAddrE (off := 0) rfl rfl (by kernel_rfl)) (AH_take 11 rfl (by kernel_rfl) (by kernel_rfl) (by kernel_rfl) rfl rfl (by decide) (Pu_loadSN (r := 1701) rfl Try.isAgg33 Try.sizeOf33 rfl rfl (fun _ h => rowP_rd h) ((bs_length _).trans hp32) (by decide) hp2) (AH_take 12 rfl (by kernel_rfl) (by kernel_rfl) (by kernel_rfl) rfl rfl (by decide) (Pu_bin rfl rfl rfl (run_idNe _ _ hid hp32 _ _)) (AH_done (by kernel_rfl) (X_then ?_)))))))))))))))
                        refine W_false rfl (by rw [hpe]; simp) ?_
                        refine W_skip (X_block (X_then ?_))
                        refine W.pre (K' := [(1, _), (9, _), (11, _), (13, _), (22, _), (23, _), (152, _), (167, _)]) (L' := [(0, _), (1301, _), (1500, _), (1700, _), (1701, _), (1702, _)]) ?_ ⟨rfl, ⟨rfl, ⟨rfl, ⟨rfl, ⟨rfl, ⟨rfl, ⟨rfl, ⟨rfl, trivial⟩⟩⟩⟩⟩⟩⟩⟩ ⟨rfl, ⟨rfl, ⟨rfl, ⟨rfl, ⟨rfl, ⟨rfl, trivial⟩⟩⟩⟩⟩⟩
                        refine W_regL (WL_pure rfl rfl (by decide) (Pu_move rfl rfl) (WL_pure rfl rfl (by decide) (Pu_bin rfl rfl rfl (run_add _ _ _ _ _ (by have : (keys l1).reverse.length ≤ 1073741824 := (by rw [List.length_reverse, keys_length]; have := hg.len; simpa using this); omega))) (WL_pure rfl rfl (by decide) (Pu_assign rfl rfl) (WL_nil ?_))))
                        exact X_round (w + 1) (by omega) (by omega) ⟨rfl, rfl, rfl, rfl, rfl, rfl, trivial⟩ ⟨rfl, rfl, rfl, rfl, rfl, rfl, trivial⟩
                      ·
                        refine W_exit (X_then_exit (X_then_exit (X_block_exit (X_block (X_then ?_)))))
                        refine W.pre (K' := [(1, _), (9, _), (11, _), (13, _), (22, _), (23, _), (152, _)]) (L' := [(0, _), (1301, _), (1500, _), (1700, _), (1701, _), (1702, _)]) ?_ ⟨rfl, ⟨rfl, ⟨rfl, ⟨rfl, ⟨rfl, ⟨rfl, ⟨rfl, trivial⟩⟩⟩⟩⟩⟩⟩ ⟨rfl, ⟨rfl, ⟨rfl, ⟨rfl, ⟨rfl, ⟨rfl, trivial⟩⟩⟩⟩⟩⟩
                        refine W_join [1700, 1701, 1702] 1600 (refP gr room l1.reverse) rfl (by decide) (fun h hs => closeRef hg hke h1e ho hs) ?_
                        refine W_regL (WL_pure rfl rfl (by decide) (Pu_move rfl rfl) (WL_pure rfl rfl (by decide) (Pu_bin rfl rfl rfl (run_add _ _ _ _ _ (by omega))) (WL_pure rfl rfl (by decide) (Pu_assign rfl rfl) (WL_nil ?_))))
                        refine X_ren 1500 600 rfl ?_
                        refine X_ren 1600 700 rfl ?_
                        exact X_round (x.1 + 1, l1) trivial (by show 80 - (x.1 + 1) < 80 - x.1; omega) ⟨rfl, rfl, rfl, rfl, trivial⟩ ⟨rfl, rfl, rfl, trivial⟩
                  exact AHs_nil
                exact AHs_nil
              exact AHs_nil
            exact AHs_nil
          exact AHs_nil
        refine AHs_cons rfl rfl rfl (by decide) (OpT_buildOnes (r := 802) [] rfl rfl Try.runUnderlying35 Try.sizeOf5 Try.zeroValue5 rfl rfl (by decide) rfl (by simp) (fun v92 => ⟨⟨rfl, ⟨rfl, trivial⟩⟩, ?_⟩)) ?_
        ·
          refine (AH_ready [3] (by kernel_rfl) (by decide) ?_)
          refine AHs_cons rfl rfl rfl (by decide) (OpT_call 900 [0, 600, 700, 701, 801, 802] [] rfl Try.call12 rfl rfl rfl (by decide) (by decide) (key_spec (callAt calls x.1).2.1 _) (fun v85 Ps85 hR85 => ?_)) ?_
          ·
            obtain ⟨rfl, rfl⟩ := hR85
            refine ⟨⟨rfl, ⟨rfl, trivial⟩⟩, ?_⟩
            refine (AH_ready [5] (by kernel_rfl) (by decide) ?_)
            refine AHs_cons rfl rfl rfl (by decide) (OpT_call 1000 [0, 700, 701, 801, 802] [600] rfl Try.call11 rfl rfl rfl (by decide) (by decide) (put_spec gc room x.2 (keyB (callAt calls x.1).2.1) (keyB_length _) v70 (List.replicate y (byte (x.1 : Int))) _ (rd_star 3 rfl (fun h hp => rdP_cast (rowP_rd hp) rfl (List.length_replicate).symm))) (fun v87 Ps87 hR87 => ?_)) ?_
            ·
              obtain ⟨rfl, rfl⟩ := hR87
              refine ⟨⟨rfl, ⟨rfl, trivial⟩⟩, ?_⟩
              refine (AH_ready [9] (by kernel_rfl) (by decide) ?_)
              refine AHs_cons rfl rfl rfl (by decide) (OpT_call 1100 [0, 700, 701, 801, 802, 1000] [] rfl Try.call12 rfl rfl rfl (by decide) (by decide) (key_spec (callAt calls x.1).2.1 _) (fun v91 Ps91 hR91 => ?_)) ?_
              ·
                obtain ⟨rfl, rfl⟩ := hR91
                refine ⟨⟨rfl, ⟨rfl, trivial⟩⟩, ?_⟩
                refine (AH_ready [12] (by kernel_rfl) (by decide) ?_)
                refine AHs_cons rfl rfl rfl (by decide) (OpT_append (r := 802) (r2 := 801) (k1 := 0) rfl Try.underlying35 TI.hi5 TI.hz5 TI.hs5 TI.hby5 TI.hzs5 (by decide) rfl rfl rfl rfl (fun _ h => rowP_rd h) (bs_one _) (by unfold maxLen; omega) (by omega) (fun v94 => ?_)) ?_
                ·
                  refine ⟨⟨rfl, ⟨rfl, trivial⟩⟩, ?_⟩
                  refine (AH_ready [13] (by kernel_rfl) (by decide) ?_)
                  refine AHs_cons rfl rfl rfl (by decide) (OpT_call 1200 [0, 701, 801, 802, 1000] [700] rfl Try.call16 rfl rfl rfl (by decide) (by decide) (refPut_spec gr room x.2.reverse (keyB (callAt calls x.1).2.1) (keyB_length _) v94 (List.replicate y (byte (x.1 : Int))) (by rw [List.length_replicate]; omega) _ (rd_star 3 rfl (fun h hp => rdP_cast (rowP_rd hp) (List.nil_append _) (by simp)))) (fun v95 Ps95 hR95 => ?_)) ?_
                  ·
                    obtain ⟨rfl, rfl⟩ := hR95
                    refine ⟨⟨rfl, ⟨rfl, trivial⟩⟩, ?_⟩
                    rw [List.reverse_reverse]
                    refine (AH_take 14 rfl (by kernel_rfl) (by kernel_rfl) (by kernel_rfl) rfl rfl (by decide) (Pu_bin rfl rfl rfl (run_neb _ _ _ Try.underlying4 _ _)) (AH_done (by kernel_rfl) (X_then ?_)))
                    refine W_false rfl (by simp) ?_
                    refine W_skip (X_then ?_)
                    refine W_seq ?_
                    refine W.pre (K' := [(1, _), (9, _), (11, _), (13, _), (14, _), (15, _), (16, _), (74, _), (96, _)]) (L' := [(0, _), (701, _), (801, _), (802, _), (1000, _), (1200, _)]) ?_ ⟨rfl, ⟨rfl, ⟨rfl, ⟨rfl, ⟨rfl, ⟨rfl, ⟨rfl, ⟨rfl, ⟨rfl, trivial⟩⟩⟩⟩⟩⟩⟩⟩⟩ ⟨rfl, ⟨rfl, ⟨rfl, ⟨rfl, ⟨rfl, ⟨rfl, trivial⟩⟩⟩⟩⟩⟩
                    refine W_regL (WL_pure rfl rfl (by decide) (Pu_assign rfl rfl) (WL_nil (X_then ?_)))
                    refine W_block ?_
                    refine W_loop (α := Nat × List UInt8) (fun u => [(1, vc), (9, .pointer (some ⟨gc, 0, none⟩)), (11, .pointer (some ⟨gr, 0, none⟩)), (13, .int .i64 (x.1 : Int)), (15, v70), (17, .int .i64 (u.1 : Int))]) (fun u => [(0, orig Wo), (1000, cacheP gc room (putC room x.2 (keyB (callAt calls x.1).2.1) (List.replicate y (byte (x.1 : Int))))), (1200, refP gr room (putC room x.2 (keyB (callAt calls x.1).2.1) (List.replicate y (byte (x.1 : Int)))).reverse), (801, rowP 5 1 v70 y (bs u.2))]) (fun u => u.1 ≤ y ∧ u.2.length = y) (fun u => y - u.1) ((0, List.replicate y (byte (x.1 : Int)))) ⟨Nat.zero_le _, List.length_replicate⟩ ⟨rfl, ⟨rfl, ⟨rfl, ⟨rfl, ⟨rfl, ⟨rfl, trivial⟩⟩⟩⟩⟩⟩ ⟨rfl, ⟨rfl, ⟨rfl, ⟨rfl, trivial⟩⟩⟩⟩ (fun u hu => ?_)
                    obtain ⟨hu1, hu2⟩ := hu
                    refine W_seq ?_
                    refine W_seq ?_
                    refine W.pre (K' := [(1, _), (9, _), (11, _), (13, _), (15, _), (17, _)]) (L' := [(0, _), (801, _), (1000, _), (1200, _)]) ?_ ⟨rfl, ⟨rfl, ⟨rfl, ⟨rfl, ⟨rfl, ⟨rfl, trivial⟩⟩⟩⟩⟩⟩ ⟨rfl, ⟨rfl, ⟨rfl, ⟨rfl, trivial⟩⟩⟩⟩
                    refine W_regL (WL_pure rfl rfl (by decide) (Pu_move rfl rfl) (WL_pure rfl rfl (by decide) (Pu_move rfl rfl) (WL_pure rfl rfl (by decide) (Pu_len (r := 801) rfl Try.runUnderlying35 rfl rfl (fun _ h => rowP_rd h)) (WL_pure rfl rfl (by decide) (Pu_bin rfl rfl rfl (run_lss _ _ _ _ _ _)) (WL_nil (X_then ?_))))))
                    refine W_cond rfl (fun hc100 => ?_) (fun hc100 => ?_)
                    ·
                      have hj3 : u.1 < y := by have := of_decide_eq_true hc100; omega
                      refine W_skip (X_then ?_)
                      refine W_seq ?_
                      refine W_block ?_
                      refine W.pre (K' := [(1, _), (9, _), (11, _), (13, _), (15, _), (17, _), (100, _)]) (L' := [(0, _), (801, _), (1000, _), (1200, _)]) ?_ ⟨rfl, ⟨rfl, ⟨rfl, ⟨rfl, ⟨rfl, ⟨rfl, ⟨rfl, trivial⟩⟩⟩⟩⟩⟩⟩ ⟨rfl, ⟨rfl, ⟨rfl, ⟨rfl, trivial⟩⟩⟩⟩
                      refine W_regL (WL_pure rfl rfl (by decide) (Pu_move rfl rfl) (WL_pure rfl rfl (by decide) (Pu_move rfl rfl) (WL_pure rfl rfl (by decide) (Pu_idxS1 (r := 801) rfl Try.runUnderlying35 Try.sizeOf5 rfl rfl rfl (fun _ h => rowP_rd h) (by omega)) (WL_cons0 rfl rfl (OpT_storeS1 (r := 801) rfl Try.sizeOf5 rfl rfl rfl rfl (by rw [bs_length, hu2]; omega) rfl ?_)))))
                      refine (WL_nil (X_block (X_then ?_)))
                      refine W.pre (K' := [(1, _), (9, _), (11, _), (13, _), (15, _), (17, _), (100, _)]) (L' := [(0, _), (801, _), (1000, _), (1200, _)]) ?_ ⟨rfl, ⟨rfl, ⟨rfl, ⟨rfl, ⟨rfl, ⟨rfl, ⟨rfl, trivial⟩⟩⟩⟩⟩⟩⟩ ⟨rfl, ⟨rfl, ⟨rfl, ⟨rfl, trivial⟩⟩⟩⟩
                      refine W_regL (WL_pure rfl rfl (by decide) (Pu_move rfl rfl) (WL_pure rfl rfl (by decide) (Pu_bin rfl rfl rfl (run_add _ _ _ _ _ (by omega))) (WL_pure rfl rfl (by decide) (Pu_assign rfl rfl) (WL_nil ?_))))
                      exact X_round (u.1 + 1, u.2.set u.1 238) ⟨by show u.1 + 1 ≤ _; omega, by simp [hu2]⟩ (by show _ - (u.1 + 1) < _; omega) ⟨rfl, rfl, rfl, rfl, rfl, rfl, trivial⟩ ⟨rfl, rfl, rfl, look_eq rfl (by rw [show bs (u.2.set u.1 238) = (bs u.2).set u.1 (bv 238) by simp [bs, List.map_set]]; rfl), trivial⟩
                    ·
                      refine W_exit (X_then_exit (X_then_exit (X_block_exit (X_then ?_))))
                      refine W_seq ?_
                      refine W.pre (K' := [(1, _), (9, _), (11, _), (13, _), (15, _), (17, _), (100, _)]) (L' := [(0, _), (801, _), (1000, _), (1200, _)]) ?_ ⟨rfl, ⟨rfl, ⟨rfl, ⟨rfl, ⟨rfl, ⟨rfl, ⟨rfl, trivial⟩⟩⟩⟩⟩⟩⟩ ⟨rfl, ⟨rfl, ⟨rfl, ⟨rfl, trivial⟩⟩⟩⟩
                      obtain ⟨l1, hl1⟩ : ∃ l1, putC room x.2 (keyB (callAt calls x.1).2.1) (List.replicate y (byte (x.1 : Int))) = l1 := ⟨_, rfl⟩
                      rw [hl1]
                      refine W_regL (WL_pure rfl rfl (by decide) (Pu_move rfl rfl) (WL_cons rfl rfl (by decide) (OpT_call 1300 [0, 801, 1200] [1000] rfl Try.call14 rfl rfl rfl (by decide) (by decide) (keys_spec gc room l1 _) (fun v133 Ps133 hR133 => ?_))))
                      subst hR133
                      refine (WL_pure rfl rfl (by decide) (Pu_assign rfl rfl) (WL_nil (X_then ?_)))
                      refine W_seq ?_
                      refine W_seq ?_
                      refine W.pre (K' := [(1, _), (9, _), (11, _), (13, _), (15, _), (17, _), (22, _), (100, _)]) (L' := [(0, _), (801, _), (1200, _), (1300, _), (1301, _)]) ?_ ⟨rfl, ⟨rfl, ⟨rfl, ⟨rfl, ⟨rfl, ⟨rfl, ⟨rfl, ⟨rfl, trivial⟩⟩⟩⟩⟩⟩⟩⟩ ⟨rfl, ⟨rfl, ⟨rfl, ⟨rfl, ⟨rfl, trivial⟩⟩⟩⟩⟩
                      refine W_openRef 1200 1400 rfl (fun v es hg hke h1e ho => ?_)
                      refine W_regL (WL_pure rfl rfl (by decide) (Pu_move rfl rfl) (WL_pure rfl rfl (by decide) (Pu_len (r := 1301) rfl Try.runUnderlying37 rfl rfl rowI_rd) (WL_pure rfl rfl (by decide) (Pu_move rfl rfl) (WL_pure rfl rfl (by decide) (Pu_nilCheck rfl rfl) (WL_pure rfl rfl (by decide) (Pu_fieldAddrB (off := 1) rfl rfl (by kernel_rfl)) (WL_pure rfl rfl (by decide) (Pu_loadB (r := 1400) rfl Try.isAgg47 rfl rfl rfl) (WL_pure rfl rfl (by decide) (Pu_len (r := 1401) rfl Try.runUnderlying47 rfl rfl (fun _ h => rowP_rd h)) ?_)))))))
                      refine WL_join [1400, 1401, 1402] 1200 (refP gr room l1.reverse) rfl (by decide) (fun h hs => closeRef hg hke h1e ho hs) ?_
                      refine (WL_pure rfl rfl (by decide) (Pu_bin rfl rfl rfl (run_neq _ _ _ _ _ _)) (WL_pure rfl rfl (by decide) (Pu_move rfl rfl) (WL_gPT rfl rfl rfl (by simp [keys]) rfl (by decide) (Pu_move rfl rfl) (WL_gT rfl rfl rfl (by simp [keys]) rfl (by decide) (OpT_call 1500 [0, 801, 1200, 1301] [1300] rfl Try.call13 rfl rfl rfl (by decide) (by decide) (total_spec gc room l1 _) (fun v144 Ps144 hR144 => ?_))))))
                      obtain ⟨rfl, rfl⟩ := hR144
                      refine (WL_gPT rfl rfl rfl (by simp [keys]) rfl (by decide) (Pu_move rfl rfl) (WL_gT rfl rfl rfl (by simp [keys]) rfl (by decide) (OpT_call 1600 [0, 801, 1301, 1500] [1200] rfl Try.call19 rfl rfl rfl (by decide) (by decide) (refTotal_spec gr room l1.reverse _) (fun v146 Ps146 hR146 => ?_))))
                      obtain ⟨rfl, rfl⟩ := hR146
                      refine (WL_gPT rfl rfl rfl (by simp [keys]) rfl (by decide) (Pu_bin rfl rfl rfl (run_neq _ _ _ _ _ _)) (WL_pure rfl rfl (by decide) (Pu_pickF rfl rfl (by simp [keys]) rfl) (WL_nil (X_then ?_))))
                      refine W_false rfl (by rw [total_reverse]; simp) ?_
                      refine W_skip (X_then ?_)
                      refine W_seq ?_
                      refine W.pre (K' := [(1, _), (9, _), (11, _), (13, _), (15, _), (17, _), (22, _), (100, _), (148, _)]) (L' := [(0, _), (801, _), (1301, _), (1500, _), (1600, _)]) ?_ ⟨rfl, ⟨rfl, ⟨rfl, ⟨rfl, ⟨rfl, ⟨rfl, ⟨rfl, ⟨rfl, ⟨rfl, trivial⟩⟩⟩⟩⟩⟩⟩⟩⟩ ⟨rfl, ⟨rfl, ⟨rfl, ⟨rfl, ⟨rfl, trivial⟩⟩⟩⟩⟩
                      refine W_openRef 1600 1700 rfl (fun v es hg hke h1e ho => ?_)
                      have hidsR : Ids (keys l1).reverse := fun y hy => hg.ids y (by rw [List.reverse_reverse]; exact List.mem_reverse.1 hy)
                      have hids : Ids (es.map (·.1)) := fun y hy => hidsR y (by rw [hke, keys_reverse] at hy; exact hy)
                      have hel : es.length = (keys l1).reverse.length := by have := congrArg List.length hke; simpa [keys] using this
                      refine W_regL (WL_pure rfl rfl (by decide) (Pu_assign rfl rfl) (WL_nil (X_then ?_)))
                      refine W_block ?_
                      refine W_loop (α := Nat) (fun w => [(1, vc), (9, .pointer (some ⟨gc, 0, none⟩)), (11, .pointer (some ⟨gr, 0, none⟩)), (13, .int .i64 (x.1 : Int)), (22, v133), (23, .int .i64 (w : Int))]) (fun w => [(0, orig Wo), (1500, cacheP gc room l1), (1700, blk gr 49 [.int .i64 (room : Int), v]), (1701, rowP 51 33 v l1.reverse.length (onesC es)), (1702, dataR es l1.reverse), (1301, rowI 33 v133 (keys l1).reverse)]) (fun w => w ≤ (keys l1).reverse.length) (fun w => (keys l1).reverse.length - w) (0) (Nat.zero_le _) ⟨rfl, ⟨rfl, ⟨rfl, ⟨rfl, ⟨rfl, ⟨rfl, trivial⟩⟩⟩⟩⟩⟩ ⟨rfl, ⟨rfl, ⟨rfl, ⟨rfl, ⟨rfl, ⟨rfl, trivial⟩⟩⟩⟩⟩⟩ (fun w hw => ?_)
                      refine W_seq ?_
                      refine W_seq ?_
                      refine W.pre (K' := [(1, _), (9, _), (11, _), (13, _), (22, _), (23, _)]) (L' := [(0, _), (1301, _), (1500, _), (1700, _), (1701, _), (1702, _)]) ?_ ⟨rfl, ⟨rfl, ⟨rfl, ⟨rfl, ⟨rfl, ⟨rfl, trivial⟩⟩⟩⟩⟩⟩ ⟨rfl, ⟨rfl, ⟨rfl, ⟨rfl, ⟨rfl, ⟨rfl, trivial⟩⟩⟩⟩⟩⟩
                      refine W_regL (WL_pure rfl rfl (by decide) (Pu_move rfl rfl) (WL_pure rfl rfl (by decide) (Pu_move rfl rfl) (WL_pure rfl rfl (by decide) (Pu_len (r := 1301) rfl Try.runUnderlying37 rfl rfl rowI_rd) (WL_pure rfl rfl (by decide) (Pu_bin rfl rfl rfl (run_lss _ _ _ _ _ _)) (WL_nil (X_then ?_))))))
                      refine W_cond rfl (fun hc152 => ?_) (fun hc152 => ?_)
                      ·
                        have hlt : w < (keys l1).reverse.length := by have := of_decide_eq_true hc152; omega
                        obtain ⟨p, hp⟩ : ∃ p, es[w]? = some p := ⟨_, List.getElem?_eq_getElem (by omega)⟩
                        obtain ⟨hp32, hp1, hp2, hp3⟩ := onesC_of hids hp
                        have hid := hidsR.get hlt
                        have hpe : (keys l1).reverse.getD w [] = p.1 := by have h0 := congrArg (fun m => m.getD w []) hke; simp only [keys_reverse] at h0; rw [← h0]; simp [hp]
                        refine W_skip (X_then ?_)
                        refine W_seq ?_
                        refine W_block ?_
                        refine W_seq ?_
                        refine W.pre (K' := [(1, _), (9, _), (11, _), (13, _), (22, _), (23, _), (152, _)]) (L' := [(0, _), (1301, _), (1500, _), (1700, _), (1701, _), (1702, _)]) ?_ ⟨rfl, ⟨rfl, ⟨rfl, ⟨rfl, ⟨rfl, ⟨rfl, ⟨rfl, trivial⟩⟩⟩⟩⟩⟩⟩ ⟨rfl, ⟨rfl, ⟨rfl, ⟨rfl, ⟨rfl, ⟨rfl, trivial⟩⟩⟩⟩⟩⟩
                        refine W_draw (N := 13) (by kernel_rfl) rfl [(0, _), (1700, _), (1301, _), (1701, _)] ⟨rfl, ⟨rfl, ⟨rfl, ⟨rfl, trivial⟩⟩⟩⟩ ?_
                        refine (AH_take 0 rfl (by kernel_rfl) (by kernel_rfl) (by kernel_rfl) rfl rfl (by decide) (Pu_move rfl rfl) (AH_take 1 rfl (by kernel_rfl) (by kernel_rfl) (by kernel_rfl) rfl rfl (by decide) (Pu_move rfl rfl) (AH_take 2 rfl (by kernel_rfl) (by kernel_rfl) (by kernel_rfl) rfl rfl (by decide) (Pu_idxS (r := 1301) rfl Try.runUnderlying37 Try.sizeOf33 rfl rfl rfl rowI_rd (by omega)) (AH_take 3 rfl (by kernel_rfl) (by kernel_rfl) (by kernel_rfl) rfl rfl (by decide) (Pu_loadSN (r := 1301) rfl Try.isAgg33 Try.sizeOf33 rfl rfl rowI_rd ((bs_length _).trans hid) (by decide) (idsC_get (k := w) hidsR hlt)) (AH_take 4 rfl (by kernel_rfl) (by kernel_rfl) (by kernel_rfl) rfl rfl (by decide) (Pu_move rfl rfl) (AH_take 5 rfl (by kernel_rfl) (by kernel_rfl) (by kernel_rfl) rfl rfl (by decide) (Pu_nilCheck rfl rfl) (AH_take 6 rfl (by kernel_rfl) (by kernel_rfl) (by kernel_rfl) rfl rfl (by decide) (Pu_fieldAddrB (off := 1) rfl rfl (by kernel_rfl)) (AH_take 7 rfl (by kernel_rfl) (by kernel_rfl) (by kernel_rfl) rfl rfl (by decide) (Pu_loadB (r := 1700) rfl Try.isAgg47 rfl rfl rfl) (AH_take 8 rfl (by kernel_rfl) (by kernel_rfl) (by kernel_rfl) rfl rfl (by decide) (Pu_move rfl rfl) (AH_take 9 rfl (by kernel_rfl) (by kernel_rfl) (by kernel_rfl) rfl rfl (by decide) (Pu_idxS (r := 1701) rfl Try.runUnderlying47 Try.sizeOf51 rfl rfl rfl (fun _ h => rowP_rd h) (by rw [List.length_reverse]; rw [List.length_reverse, keys_length] at hlt; omega)) (AH_take 10 rfl (by kernel_rfl) (by kernel_rfl) (by kernel_rfl) rfl rfl (by decide) (Pu_fieldAddrE (off := 0) rfl rfl (by kernel_rfl)) (AH_take 11 rfl (by kernel_rfl) (by kernel_rfl) (by kernel_rfl) rfl rfl (by decide) (Pu_loadSN (r := 1701) rfl Try.isAgg33 Try.sizeOf33 rfl rfl (fun _ h => rowP_rd h) ((bs_length _).trans hp32) (by decide) hp2) (AH_take 12 rfl (by kernel_rfl) (by kernel_rfl) (by kernel_rfl) rfl rfl (by decide) (Pu_bin rfl rfl rfl (run_idNe _ _ hid hp32 _ _)) (AH_done (by kernel_rfl) (X_then ?_)))))))))))))))
                        refine W_false rfl (by rw [hpe]; simp) ?_
                        refine W_skip (X_block (X_then ?_))
                        refine W.pre (K' := [(1, _), (9, _), (11, _), (13, _), (22, _), (23, _), (152, _), (167, _)]) (L' := [(0, _), (1301, _), (1500, _), (1700, _), (1701, _), (1702, _)]) ?_ ⟨rfl, ⟨rfl, ⟨rfl, ⟨rfl, ⟨rfl, ⟨rfl, ⟨rfl, ⟨rfl, trivial⟩⟩⟩⟩⟩⟩⟩⟩ ⟨rfl, ⟨rfl, ⟨rfl, ⟨rfl, ⟨rfl, ⟨rfl, trivial⟩⟩⟩⟩⟩⟩
                        refine W_regL (WL_pure rfl rfl (by decide) (Pu_move rfl rfl) (WL_pure rfl rfl (by decide) (Pu_bin rfl rfl rfl (run_add _ _ _ _ _ (by have : (keys l1).reverse.length ≤ 1073741824 := (by rw [List.length_reverse, keys_length]; have := hg.len; simpa using this); omega))) (WL_pure rfl rfl (by decide) (Pu_assign rfl rfl) (WL_nil ?_))))
                        exact X_round (w + 1) (by omega) (by omega) ⟨rfl, rfl, rfl, rfl, rfl, rfl, trivial⟩ ⟨rfl, rfl, rfl, rfl, rfl, rfl, trivial⟩
                      ·
                        refine W_exit (X_then_exit (X_then_exit (X_block_exit (X_block (X_then ?_)))))
                        refine W.pre (K' := [(1, _), (9, _), (11, _), (13, _), (22, _), (23, _), (152, _)]) (L' := [(0, _), (1301, _), (1500, _), (1700, _), (1701, _), (1702, _)]) ?_ ⟨rfl, ⟨rfl, ⟨rfl, ⟨rfl, ⟨rfl, ⟨rfl, ⟨rfl, trivial⟩⟩⟩⟩⟩⟩⟩ ⟨rfl, ⟨rfl, ⟨rfl, ⟨rfl, ⟨rfl, ⟨rfl, trivial⟩⟩⟩⟩⟩⟩
                        refine W_join [1700, 1701, 1702] 1600 (refP gr room l1.reverse) rfl (by decide) (fun h hs => closeRef hg hke h1e ho hs) ?_
                        refine W_regL (WL_pure rfl rfl (by decide) (Pu_move rfl rfl) (WL_pure rfl rfl (by decide) (Pu_bin rfl rfl rfl (run_add _ _ _ _ _ (by omega))) (WL_pure rfl rfl (by decide) (Pu_assign rfl rfl) (WL_nil ?_))))
                        refine X_ren 1500 600 rfl ?_
                        refine X_ren 1600 700 rfl ?_
                        exact X_round (x.1 + 1, l1) trivial (by show 80 - (x.1 + 1) < 80 - x.1; omega) ⟨rfl, rfl, rfl, rfl, trivial⟩ ⟨rfl, rfl, rfl, trivial⟩
                  exact AHs_nil
                exact AHs_nil
              exact AHs_nil
            exact AHs_nil
          exact AHs_nil
        exact AHs_nil
    ·
      refine W_seq ?_
      refine W.pre (K' := [(1, _), (9, _), (11, _), (13, _), (14, _), (58, _), (66, _)]) (L' := [(0, _), (600, _), (700, _), (701, _)]) ?_ ⟨rfl, ⟨rfl, ⟨rfl, ⟨rfl, ⟨rfl, ⟨rfl, ⟨rfl, trivial⟩⟩⟩⟩⟩⟩⟩ ⟨rfl, ⟨rfl, ⟨rfl, ⟨rfl, trivial⟩⟩⟩⟩
      refine W_fact (r := 600) rfl (fun h hp => hp.1) (fun hgx => ?_)
      refine W_regL (WL_pure rfl rfl (by decide) (Pu_move rfl rfl) (WL_pure rfl rfl (by decide) (Pu_fieldAddrB (off := 1) rfl rfl (by kernel_rfl)) (WL_pure rfl rfl (by decide) (Pu_loadB (r := 701) rfl Try.isAgg3 rfl rfl rfl) (WL_cons rfl rfl (by decide) (OpT_call 800 [0, 600, 700, 701] [] rfl Try.call12 rfl rfl rfl (by decide) (by decide) (key_spec (callAt calls x.1).2.1 _) (fun v110 Ps110 hR110 => ?_))))))
      obtain ⟨rfl, rfl⟩ := hR110
      refine (WL_cons rfl rfl (by decide) (OpT_call 900 [0, 700, 701] [600] rfl Try.call17 rfl rfl rfl (by decide) (by decide) (get_spec gc room x.2 (keyB (callAt calls x.1).2.1) (keyB_length _) _) (fun v111 Ps111 hR111 => ?_)))
      obtain ⟨v111, rfl, rfl⟩ := hR111
      refine (WL_pure rfl rfl (by decide) (Pu_move rfl rfl) (WL_pure rfl rfl (by decide) (Pu_extract rfl rfl rfl) (WL_pure rfl rfl (by decide) (Pu_extract rfl rfl rfl) (WL_pure rfl rfl (by decide) (Pu_assign rfl rfl) (WL_pure rfl rfl (by decide) (Pu_assign rfl rfl) (WL_nil (X_then ?_)))))))
      refine W_seq ?_
      refine W.pre (K' := [(1, _), (9, _), (11, _), (13, _), (14, _), (18, _), (19, _), (58, _), (66, _)]) (L' := [(0, _), (700, _), (701, _), (900, _), (901, _)]) ?_ ⟨rfl, ⟨rfl, ⟨rfl, ⟨rfl, ⟨rfl, ⟨rfl, ⟨rfl, ⟨rfl, ⟨rfl, trivial⟩⟩⟩⟩⟩⟩⟩⟩⟩ ⟨rfl, ⟨rfl, ⟨rfl, ⟨rfl, ⟨rfl, trivial⟩⟩⟩⟩⟩
      refine W_regL (WL_pure rfl rfl (by decide) (Pu_move rfl rfl) (WL_pure rfl rfl (by decide) (Pu_fieldAddrB (off := 1) rfl rfl (by kernel_rfl)) (WL_pure rfl rfl (by decide) (Pu_loadB (r := 701) rfl Try.isAgg3 rfl rfl rfl) (WL_cons rfl rfl (by decide) (OpT_call 1000 [0, 700, 701, 900, 901] [] rfl Try.call12 rfl rfl rfl (by decide) (by decide) (key_spec (callAt calls x.1).2.1 _) (fun v118 Ps118 hR118 => ?_))))))
      obtain ⟨rfl, rfl⟩ := hR118
      refine (WL_cons rfl rfl (by decide) (OpT_call 1100 [0, 701, 900, 901] [700] rfl Try.call18 rfl rfl rfl (by decide) (by decide) (refGet_spec gr room x.2.reverse (keyB (callAt calls x.1).2.1) (keyB_length _) _) (fun v119 Ps119 hR119 => ?_)))
      obtain ⟨v119, rfl, rfl⟩ := hR119
      rw [lookup_reverse hgx.nodup, getR_reverse hgx.nodup]
      refine (WL_pure rfl rfl (by decide) (Pu_move rfl rfl) (WL_pure rfl rfl (by decide) (Pu_extract rfl rfl rfl) (WL_pure rfl rfl (by decide) (Pu_extract rfl rfl rfl) (WL_pure rfl rfl (by decide) (Pu_assign rfl rfl) (WL_pure rfl rfl (by decide) (Pu_assign rfl rfl) (WL_nil (X_then ?_)))))))
      refine W_seq ?_
      refine W.pre (K' := [(1, _), (9, _), (11, _), (13, _), (14, _), (18, _), (19, _), (20, _), (21, _), (58, _), (66, _)]) (L' := [(0, _), (701, _), (900, _), (901, _), (1100, _)]) ?_ ⟨rfl, ⟨rfl, ⟨rfl, ⟨rfl, ⟨rfl, ⟨rfl, ⟨rfl, ⟨rfl, ⟨rfl, ⟨rfl, ⟨rfl, trivial⟩⟩⟩⟩⟩⟩⟩⟩⟩⟩⟩ ⟨rfl, ⟨rfl, ⟨rfl, ⟨rfl, ⟨rfl, trivial⟩⟩⟩⟩⟩
      refine W_regL (WL_pure rfl rfl (by decide) (Pu_move rfl rfl) (WL_pure rfl rfl (by decide) (Pu_convBS (r := 901) rfl Try.underlying35 Try.underlying5 Try.underlying9 rfl rfl rowB_rd) (WL_pure rfl rfl (by decide) (Pu_move rfl rfl) (WL_pure rfl rfl (by decide) (Pu_convBS (r := 1100) rfl Try.underlying35 Try.underlying5 Try.underlying9 rfl rfl (fun h hp => hp.2)) (WL_pure rfl rfl (by decide) (Pu_bin rfl rfl rfl (run_strNe _ _ _ _ _)) (WL_pure rfl rfl (by decide) (Pu_move rfl rfl) (WL_guardP rfl rfl rfl rfl (by decide) (fun hb => (Pu_move rfl rfl)) (WL_guardP rfl rfl rfl rfl (by decide) (fun hb => (Pu_move rfl rfl)) (WL_guardP rfl rfl rfl rfl (by decide) (fun hb => (Pu_bin rfl (ev_gv rfl hb) (ev_gv rfl hb) (run_neb _ _ _ Try.underlying4 _ _))) (WL_pure rfl rfl (by decide) (Pu_or rfl rfl rfl) (WL_nil (X_then ?_))))))))))))
      refine W_false rfl (by simp) ?_
      refine W_skip (X_then ?_)
      refine W_seq ?_
      refine W.pre (K' := [(1, _), (9, _), (11, _), (13, _), (14, _), (18, _), (19, _), (20, _), (21, _), (58, _), (66, _), (131, _)]) (L' := [(0, _), (701, _), (900, _), (901, _), (1100, _)]) ?_ ⟨rfl, ⟨rfl, ⟨rfl, ⟨rfl, ⟨rfl, ⟨rfl, ⟨rfl, ⟨rfl, ⟨rfl, ⟨rfl, ⟨rfl, ⟨rfl, trivial⟩⟩⟩⟩⟩⟩⟩⟩⟩⟩⟩⟩ ⟨rfl, ⟨rfl, ⟨rfl, ⟨rfl, ⟨rfl, trivial⟩⟩⟩⟩⟩
      refine W_turn (P' := refP gr room (getC x.2 (keyB (callAt calls x.1).2.1)).reverse) 1100 rfl (fun h hp => hp.1) ?_
      obtain ⟨l1, hl1⟩ : ∃ l1, getC x.2 (keyB (callAt calls x.1).2.1) = l1 := ⟨_, rfl⟩
      rw [hl1]
      refine W_regL (WL_pure rfl rfl (by decide) (Pu_move rfl rfl) (WL_cons rfl rfl (by decide) (OpT_call 1200 [0, 701, 901, 1100] [900] rfl Try.call14 rfl rfl rfl (by decide) (by decide) (keys_spec gc room l1 _) (fun v133 Ps133 hR133 => ?_))))
      subst hR133
      refine (WL_pure rfl rfl (by decide) (Pu_assign rfl rfl) (WL_nil (X_then ?_)))
      refine W_seq ?_
      refine W_seq ?_
      refine W.pre (K' := [(1, _), (9, _), (11, _), (13, _), (14, _), (18, _), (19, _), (20, _), (21, _), (22, _), (58, _), (66, _), (131, _)]) (L' := [(0, _), (701, _), (901, _), (1100, _), (1200, _), (1201, _)]) ?_ ⟨rfl, ⟨rfl, ⟨rfl, ⟨rfl, ⟨rfl, ⟨rfl, ⟨rfl, ⟨rfl, ⟨rfl, ⟨rfl, ⟨rfl, ⟨rfl, ⟨rfl, trivial⟩⟩⟩⟩⟩⟩⟩⟩⟩⟩⟩⟩⟩ ⟨rfl, ⟨rfl, ⟨rfl, ⟨rfl, ⟨rfl, ⟨rfl, trivial⟩⟩⟩⟩⟩⟩
      refine W_openRef 1100 1300 rfl (fun v es hg hke h1e ho => ?_)
      refine W_regL (WL_pure rfl rfl (by decide) (Pu_move rfl rfl) (WL_pure rfl rfl (by decide) (Pu_len (r := 1201) rfl Try.runUnderlying37 rfl rfl rowI_rd) (WL_pure rfl rfl (by decide) (Pu_move rfl rfl) (WL_pure rfl rfl (by decide) (Pu_nilCheck rfl rfl) (WL_pure rfl rfl (by decide) (Pu_fieldAddrB (off := 1) rfl rfl (by kernel_rfl)) (WL_pure rfl rfl (by decide) (Pu_loadB (r := 1300) rfl Try.isAgg47 rfl rfl rfl) (WL_pure rfl rfl (by decide) (Pu_len (r := 1301) rfl Try.runUnderlying47 rfl rfl (fun _ h => rowP_rd h)) ?_)))))))
      refine WL_join [1300, 1301, 1302] 1100 (refP gr room l1.reverse) rfl (by decide) (fun h hs => closeRef hg hke h1e ho hs) ?_
      refine (WL_pure rfl rfl (by decide) (Pu_bin rfl rfl rfl (run_neq _ _ _ _ _ _)) (WL_pure rfl rfl (by decide) (Pu_move rfl rfl) (WL_gPT rfl rfl rfl (by simp [keys]) rfl (by decide) (Pu_move rfl rfl) (WL_gT rfl rfl rfl (by simp [keys]) rfl (by decide) (OpT_call 1400 [0, 701, 901, 1100, 1201] [1200] rfl Try.call13 rfl rfl rfl (by decide) (by decide) (total_spec gc room l1 _) (fun v144 Ps144 hR144 => ?_))))))
      obtain ⟨rfl, rfl⟩ := hR144
      refine (WL_gPT rfl rfl rfl (by simp [keys]) rfl (by decide) (Pu_move rfl rfl) (WL_gT rfl rfl rfl (by simp [keys]) rfl (by decide) (OpT_call 1500 [0, 701, 901, 1201, 1400] [1100] rfl Try.call19 rfl rfl rfl (by decide) (by decide) (refTotal_spec gr room l1.reverse _) (fun v146 Ps146 hR146 => ?_))))
      obtain ⟨rfl, rfl⟩ := hR146
      refine (WL_gPT rfl rfl rfl (by simp [keys]) rfl (by decide) (Pu_bin rfl rfl rfl (run_neq _ _ _ _ _ _)) (WL_pure rfl rfl (by decide) (Pu_pickF rfl rfl (by simp [keys]) rfl) (WL_nil (X_then ?_))))
      refine W_false rfl (by rw [total_reverse]; simp) ?_
      refine W_skip (X_then ?_)
      refine W_seq ?_
      refine W.pre (K' := [(1, _), (9, _), (11, _), (13, _), (14, _), (18, _), (19, _), (20, _), (21, _), (22, _), (58, _), (66, _), (131, _), (148, _)]) (L' := [(0, _), (701, _), (901, _), (1201, _), (1400, _), (1500, _)]) ?_ ⟨rfl, ⟨rfl, ⟨rfl, ⟨rfl, ⟨rfl, ⟨rfl, ⟨rfl, ⟨rfl, ⟨rfl, ⟨rfl, ⟨rfl, ⟨rfl, ⟨rfl, ⟨rfl, trivial⟩⟩⟩⟩⟩⟩⟩⟩⟩⟩⟩⟩⟩⟩ ⟨rfl, ⟨rfl, ⟨rfl, ⟨rfl, ⟨rfl, ⟨rfl, trivial⟩⟩⟩⟩⟩⟩
      refine W_openRef 1500 1600 rfl (fun v es hg hke h1e ho => ?_)
      have hidsR : Ids (keys l1).reverse := fun y hy => hg.ids y (by rw [List.reverse_reverse]; exact List.mem_reverse.1 hy)
      have hids : Ids (es.map (·.1)) := fun y hy => hidsR y (by rw [hke, keys_reverse] at hy; exact hy)
      have hel : es.length = (keys l1).reverse.length := by have := congrArg List.length hke; simpa [keys] using this
      refine W_regL (WL_pure rfl rfl (by decide) (Pu_assign rfl rfl) (WL_nil (X_then ?_)))
      refine W_block ?_
      refine W_loop (α := Nat) (fun w => [(1, vc), (9, .pointer (some ⟨gc, 0, none⟩)), (11, .pointer (some ⟨gr, 0, none⟩)), (13, .int .i64 (x.1 : Int)), (22, v133), (23, .int .i64 (w : Int))]) (fun w => [(0, orig Wo), (1400, cacheP gc room l1), (1600, blk gr 49 [.int .i64 (room : Int), v]), (1601, rowP 51 33 v l1.reverse.length (onesC es)), (1602, dataR es l1.reverse), (1201, rowI 33 v133 (keys l1).reverse)]) (fun w => w ≤ (keys l1).reverse.length) (fun w => (keys l1).reverse.length - w) (0) (Nat.zero_le _) ⟨rfl, ⟨rfl, ⟨rfl, ⟨rfl, ⟨rfl, ⟨rfl, trivial⟩⟩⟩⟩⟩⟩ ⟨rfl, ⟨rfl, ⟨rfl, ⟨rfl, ⟨rfl, ⟨rfl, trivial⟩⟩⟩⟩⟩⟩ (fun w hw => ?_)
      refine W_seq ?_
      refine W_seq ?_
      refine W.pre (K' := [(1, _), (9, _), (11, _), (13, _), (22, _), (23, _)]) (L' := [(0, _), (1201, _), (1400, _), (1600, _), (1601, _), (1602, _)]) ?_ ⟨rfl, ⟨rfl, ⟨rfl, ⟨rfl, ⟨rfl, ⟨rfl, trivial⟩⟩⟩⟩⟩⟩ ⟨rfl, ⟨rfl, ⟨rfl, ⟨rfl, ⟨rfl, ⟨rfl, trivial⟩⟩⟩⟩⟩⟩
      refine W_regL (WL_pure rfl rfl (by decide) (Pu_move rfl rfl) (WL_pure rfl rfl (by decide) (Pu_move rfl rfl) (WL_pure rfl rfl (by decide) (Pu_len (r := 1201) rfl Try.runUnderlying37 rfl rfl rowI_rd) (WL_pure rfl rfl (by decide) (Pu_bin rfl rfl rfl (run_lss _ _ _ _ _ _)) (WL_nil (X_then ?_))))))
      refine W_cond rfl (fun hc152 => ?_) (fun hc152 => ?_)
      ·
        have hlt : w < (keys l1).reverse.length := by have := of_decide_eq_true hc152; omega
        obtain ⟨p, hp⟩ : ∃ p, es[w]? = some p := ⟨_, List.getElem?_eq_getElem (by omega)⟩
        obtain ⟨hp32, hp1, hp2, hp3⟩ := onesC_of hids hp
        have hid := hidsR.get hlt
        have hpe : (keys l1).reverse.getD w [] = p.1 := by have h0 := congrArg (fun m => m.getD w []) hke; simp only [keys_reverse] at h0; rw [← h0]; simp [hp]
        refine W_skip (X_then ?_)
        refine W_seq ?_
        refine W_block ?_
        refine W_seq ?_
        refine W.pre (K' := [(1, _), (9, _), (11, _), (13, _), (22, _), (23, _), (152, _)]) (L' := [(0, _), (1201, _), (1400, _), (1600, _), (1601, _), (1602, _)]) ?_ ⟨rfl, ⟨rfl, ⟨rfl, ⟨rfl, ⟨rfl, ⟨rfl, ⟨rfl, trivial⟩⟩⟩⟩⟩⟩⟩ ⟨rfl, ⟨rfl, ⟨rfl, ⟨rfl, ⟨rfl, ⟨rfl, trivial⟩⟩⟩⟩⟩⟩
        refine W_draw (N := 13) (by kernel_rfl) rfl [(0, _), (1600, _), (1201, _), (1601, _)] ⟨rfl, ⟨rfl, ⟨rfl, ⟨rfl, trivial⟩⟩⟩⟩ ?_
        refine (AH_take 0 rfl (by kernel_rfl) (by kernel_rfl) (by kernel_rfl) rfl rfl (by decide) (Pu_move rfl rfl) (AH_take 1 rfl (by kernel_rfl) (by kernel_rfl) (by kernel_rfl) rfl rfl (by decide) (Pu_move rfl rfl) (AH_take 2 rfl (by kernel_rfl) (by kernel_rfl) (by kernel_rfl) rfl rfl (by decide) (Pu_idxS (r := 1201) rfl Try.runUnderlying37 Try.sizeOf33 rfl rfl rfl rowI_rd (by omega)) (AH_take 3 rfl (by kernel_rfl) (by kernel_rfl) (by kernel_rfl) rfl rfl (by decide) (Pu_loadSN (r := 1201) rfl Try.isAgg33 Try.sizeOf33 rfl rfl rowI_rd ((bs_length _).trans hid) (by decide) (idsC_get (k := w) hidsR hlt)) (AH_take 4 rfl (by kernel_rfl) (by kernel_rfl) (by kernel_rfl) rfl rfl (by decide) (Pu_move rfl rfl) (AH_take 5 rfl (by kernel_rfl) (by kernel_rfl) (by kernel_rfl) rfl rfl (by decide) (Pu_nilCheck rfl rfl) (AH_take 6 rfl (by kernel_rfl) (by kernel_rfl) (by kernel_rfl) rfl rfl (by decide) (Pu_fieldAddrB (off := 1) rfl rfl (by kernel_rfl)) (AH_take 7 rfl (by kernel_rfl) (by kernel_rfl) (by kernel_rfl) rfl rfl (by decide) (Pu_loadB (r := 1600) rfl Try.isAgg47 rfl rfl rfl) (AH_take 8 rfl (by kernel_rfl) (by kernel_rfl) (by kernel_rfl) rfl rfl (by decide) (Pu_move rfl rfl) (AH_take 9 rfl (by kernel_rfl) (by kernel_rfl) (by kernel_rfl) rfl rfl (by decide) (Pu_idxS (r := 1601) rfl Try.runUnderlying47 Try.sizeOf51 rfl rfl rfl (fun _ h => rowP_rd h) (by rw [List.length_reverse]; rw [List.length_reverse, keys_length] at hlt; omega)) (AH_take 10 rfl (by kernel_rfl) (by kernel_rfl) (by kernel_rfl) rfl rfl (by decide) (Pu_fieldAddrE (off := 0) rfl rfl (by kernel_rfl)) (AH_take 11 rfl (by kernel_rfl) (by kernel_rfl) (by kernel_rfl) rfl rfl (by decide) (Pu_loadSN (r := 1601) rfl Try.isAgg33 Try.sizeOf33 rfl rfl (fun _ h => rowP_rd h) ((bs_length _).trans hp32) (by decide) hp2) (AH_take 12 rfl (by kernel_rfl) (by kernel_rfl) (by kernel_rfl) rfl rfl (by decide) (Pu_bin rfl rfl rfl (run_idNe _ _ hid hp32 _ _)) (AH_done (by kernel_rfl) (X_then ?_)))))))))))))))
        refine W_false rfl (by rw [hpe]; simp) ?_
        refine W_skip (X_block (X_then ?_))
        refine W.pre (K' := [(1, _), (9, _), (11, _), (13, _), (22, _), (23, _), (152, _), (167, _)]) (L' := [(0, _), (1201, _), (1400, _), (1600, _), (1601, _), (1602, _)]) ?_ ⟨rfl, ⟨rfl, ⟨rfl, ⟨rfl, ⟨rfl, ⟨rfl, ⟨rfl, ⟨rfl, trivial⟩⟩⟩⟩⟩⟩⟩⟩ ⟨rfl, ⟨rfl, ⟨rfl, ⟨rfl, ⟨rfl, ⟨rfl, trivial⟩⟩⟩⟩⟩⟩
        refine W_regL (WL_pure rfl rfl (by decide) (Pu_move rfl rfl) (WL_pure rfl rfl (by decide) (Pu_bin rfl rfl rfl (run_add _ _ _ _ _ (by have : (keys l1).reverse.length ≤ 1073741824 := (by rw [List.length_reverse, keys_length]; have := hg.len; simpa using this); omega))) (WL_pure rfl rfl (by decide) (Pu_assign rfl rfl) (WL_nil ?_))))
        exact X_round (w + 1) (by omega) (by omega) ⟨rfl, rfl, rfl, rfl, rfl, rfl, trivial⟩ ⟨rfl, rfl, rfl, rfl, rfl, rfl, trivial⟩
      ·
        refine W_exit (X_then_exit (X_then_exit (X_block_exit (X_block (X_then ?_)))))
        refine W.pre (K' := [(1, _), (9, _), (11, _), (13, _), (22, _), (23, _), (152, _)]) (L' := [(0, _), (1201, _), (1400, _), (1600, _), (1601, _), (1602, _)]) ?_ ⟨rfl, ⟨rfl, ⟨rfl, ⟨rfl, ⟨rfl, ⟨rfl, ⟨rfl, trivial⟩⟩⟩⟩⟩⟩⟩ ⟨rfl, ⟨rfl, ⟨rfl, ⟨rfl, ⟨rfl, ⟨rfl, trivial⟩⟩⟩⟩⟩⟩
        refine W_join [1600, 1601, 1602] 1500 (refP gr room l1.reverse) rfl (by decide) (fun h hs => closeRef hg hke h1e ho hs) ?_
        refine W_regL (WL_pure rfl rfl (by decide) (Pu_move rfl rfl) (WL_pure rfl rfl (by decide) (Pu_bin rfl rfl rfl (run_add _ _ _ _ _ (by omega))) (WL_pure rfl rfl (by decide) (Pu_assign rfl rfl) (WL_nil ?_))))
        refine X_ren 1400 600 rfl ?_
        refine X_ren 1500 700 rfl ?_
        exact X_round (x.1 + 1, l1) trivial (by show 80 - (x.1 + 1) < 80 - x.1; omega) ⟨rfl, rfl, rfl, rfl, trivial⟩ ⟨rfl, rfl, rfl, trivial⟩
  ·
    refine W_exit (X_then_exit (X_then_exit (X_block_exit (X_then ?_))))
    refine W_seq ?_
    refine W.pre (K' := [(1, _), (9, _), (11, _), (13, _), (58, _)]) (L' := [(0, _), (600, _), (700, _)]) ?_ ⟨rfl, ⟨rfl, ⟨rfl, ⟨rfl, ⟨rfl, trivial⟩⟩⟩⟩⟩ ⟨rfl, ⟨rfl, ⟨rfl, trivial⟩⟩⟩
    refine W_regL (WL_pure rfl rfl (by decide) (Pu_assign rfl rfl) (WL_nil (X_then ?_)))
    refine W_ret ?_
    exact X_ret [] (Ps := []) (res1 Try.results5 rfl) rfl (by decide) rfl

theorem cachePlays_any (W : World) (a0 : Int) (lo0 : -9223372036854775808 ≤ a0) (hi0 : a0 ≤ 9223372036854775807) (v1 : Value) (l1 : List (Bool × Int × Int)) (hr1 : Rd W 3 v1 l1.length (callsC l1)) (hl1 : l1.length ≤ maxLen) :
    Calls Try.prog 5 #[.int .i64 a0, v1] W fun e W' => e = .returned (.bool true) ∧ Chg [] W W' := calls_law (cachePlays_law W a0 v1 l1 hr1)
end Go.Proofs.Ytamhhkjddmjanaa
