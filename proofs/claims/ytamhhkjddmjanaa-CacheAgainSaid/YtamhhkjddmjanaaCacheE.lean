/- Caches: the law of what is put again. -/
import Derived.Test.YtamhhkjddmjanaaCacheD
import Derived.Test.YtamhhkjddmjanaaCache2
import Derived.Test.YtamhhkjddmjanaaOpen2
namespace Go.Proofs.Ytamhhkjddmjanaa
open Go.RowKit
set_option linter.unusedVariables false
set_option linter.unusedSimpArgs false

theorem cacheAgain_law (Wo : World) (va : Value) (a : List UInt8) (hra : RdB Wo va a) (hsa : a.length ≤ 140737488351232) (vb : Value) (b : List UInt8) (hrb : RdB Wo vb b) (hsb : b.length ≤ 140737488351232) (others : Int) :
    CallsS Try.prog 7 #[va, vb, .int .i64 others] (orig Wo) [] (fun v Ps => v = .bool true) := by
  refine callsS_enter Try.func7 rfl Try.ntmps7 (by simp) (fun E => ?_)
  refine W_seq ?_
  refine W.pre (K' := [(0, _), (1, _), (2, _)]) (L' := [(0, _)]) ?_ ⟨rfl, ⟨rfl, ⟨rfl, trivial⟩⟩⟩ ⟨rfl, trivial⟩
  refine W_regL (WL_pure rfl rfl (by decide) (Pu_assign rfl rfl) (WL_nil (X_then ?_)))
  refine W_seq ?_
  refine W_seq ?_
  refine W.pre (K' := [(0, _), (1, _), (2, _), (6, _)]) (L' := [(0, _)]) ?_ ⟨rfl, ⟨rfl, ⟨rfl, ⟨rfl, trivial⟩⟩⟩⟩ ⟨rfl, trivial⟩
  refine W_regL (WL_cons rfl rfl (by decide) (OpT_call 200 [0] [] rfl Try.call8 rfl rfl rfl (by decide) (by decide) (known_spec _) (fun v15 Ps15 hR15 => ?_)))
  obtain ⟨rfl, rfl⟩ := hR15
  refine (WL_pure rfl rfl (by decide) (Pu_un rfl rfl (run_not _)) (WL_nil (X_then ?_)))
  refine W_false rfl (rfl) ?_
  refine W_skip (X_then ?_)
  refine W_seq ?_
  refine W_seq ?_
  refine W.pre (K' := [(0, _), (1, _), (2, _), (6, _), (16, _)]) (L' := [(0, _)]) ?_ ⟨rfl, ⟨rfl, ⟨rfl, ⟨rfl, ⟨rfl, trivial⟩⟩⟩⟩⟩ ⟨rfl, trivial⟩
  refine W_regL (WL_pure rfl rfl (by decide) (Pu_move rfl rfl) (WL_pure rfl rfl (by decide) (Pu_len (r := 0) rfl Try.runUnderlying35 rfl rfl (fun h hp => Rd.orig hra h hp)) (WL_pure rfl rfl (by decide) (Pu_bin rfl rfl rfl (run_eql _ _ _ _ _ _)) (WL_pure rfl rfl (by decide) (Pu_move rfl rfl) (WL_guardP rfl rfl rfl rfl (by decide) (fun hb => (Pu_move rfl rfl)) (WL_guardP rfl rfl rfl rfl (by decide) (fun hb => (Pu_len (r := 0) rfl Try.runUnderlying35 (ev_gv rfl hb) rfl (fun h hp => Rd.orig hrb h hp))) (WL_guardP rfl rfl rfl rfl (by decide) (fun hb => (Pu_bin rfl (ev_gv rfl hb) rfl (run_eql _ _ _ _ _ _))) (WL_pure rfl rfl (by decide) (Pu_or rfl rfl rfl) (WL_pure rfl rfl (by decide) (Pu_move rfl rfl) (WL_guardP rfl rfl rfl rfl (by decide) (fun hb => (Pu_move rfl rfl)) (WL_guardP rfl rfl rfl rfl (by decide) (fun hb => (Pu_len (r := 0) rfl Try.runUnderlying35 (ev_gv rfl hb) rfl (fun h hp => Rd.orig hra h hp))) (WL_guardP rfl rfl rfl rfl (by decide) (fun hb => (Pu_move rfl rfl)) (WL_guardP rfl rfl rfl rfl (by decide) (fun hb => (Pu_len (r := 0) rfl Try.runUnderlying35 (ev_gv rfl hb) rfl (fun h hp => Rd.orig hrb h hp))) (WL_guardP rfl rfl rfl rfl (by decide) (fun hb => (Pu_bin rfl (ev_gv rfl hb) (ev_gv rfl hb) (run_add _ _ _ _ _ (by omega)))) (WL_guardP rfl rfl rfl rfl (by decide) (fun hb => (Pu_bin rfl (ev_gv rfl hb) rfl (run_gtr _ _ _ _ _ _))) (WL_pure rfl rfl (by decide) (Pu_or rfl rfl rfl) (WL_nil (X_then ?_))))))))))))))))))
  refine W_cond rfl (fun hc32 => ?_) (fun hc32 => ?_)
  ·
    refine W_seq ?_
    refine W.pre (K' := [(0, _), (1, _), (2, _), (6, _), (16, _), (32, _)]) (L' := [(0, _)]) ?_ ⟨rfl, ⟨rfl, ⟨rfl, ⟨rfl, ⟨rfl, ⟨rfl, trivial⟩⟩⟩⟩⟩⟩ ⟨rfl, trivial⟩
    refine W_regL (WL_pure rfl rfl (by decide) (Pu_assign rfl rfl) (WL_nil (X_then ?_)))
    refine W_ret (X_then_ret ?_)
    exact X_ret [] (Ps := []) (res1 Try.results7 rfl) rfl (by decide) rfl
  ·
    have hsz : 1 ≤ a.length ∧ 1 ≤ b.length ∧ a.length + b.length ≤ 200 := by rw [Bool.or_eq_false_iff, Bool.or_eq_false_iff] at hc32; have h1 := of_decide_eq_false hc32.1.1; have h2 := of_decide_eq_false hc32.1.2; have h3 := of_decide_eq_false hc32.2; omega
    obtain ⟨h1a, h1b, hab⟩ := hsz
    refine W_skip (X_then ?_)
    refine W_seq ?_
    refine W.pre (K' := [(0, _), (1, _), (2, _), (6, _), (16, _), (32, _)]) (L' := [(0, _)]) ?_ ⟨rfl, ⟨rfl, ⟨rfl, ⟨rfl, ⟨rfl, ⟨rfl, trivial⟩⟩⟩⟩⟩⟩ ⟨rfl, trivial⟩
    refine W_regL (WL_cons rfl rfl (by decide) (OpT_call 300 [0] [] rfl Try.call10 rfl rfl rfl (by decide) (by decide) (new_good 400 (by decide) _) (fun v34 Ps34 hR34 => ?_)))
    obtain ⟨gc, rfl, rfl⟩ := hR34
    refine (WL_pure rfl rfl (by decide) (Pu_move rfl rfl) (WL_pure rfl rfl (by decide) (Pu_extract rfl rfl rfl) (WL_pure rfl rfl (by decide) (Pu_extract rfl rfl rfl) (WL_pure rfl rfl (by decide) (Pu_assign rfl rfl) (WL_pure rfl rfl (by decide) (Pu_assign rfl rfl) (WL_nil (X_then ?_)))))))
    refine W_seq ?_
    refine W.pre (K' := [(0, _), (1, _), (2, _), (6, _), (7, _), (16, _), (32, _)]) (L' := [(0, _), (300, _)]) ?_ ⟨rfl, ⟨rfl, ⟨rfl, ⟨rfl, ⟨rfl, ⟨rfl, ⟨rfl, trivial⟩⟩⟩⟩⟩⟩⟩ ⟨rfl, ⟨rfl, trivial⟩⟩
    refine W_regL (WL_pure rfl rfl (by decide) (Pu_move rfl rfl) (WL_cons rfl rfl (by decide) (OpT_call 400 [0, 300] [] rfl Try.call9 rfl rfl rfl (by decide) (by decide) (within_spec others 5 (by omega) (by omega) _) (fun v38 Ps38 hR38 => ?_))))
    obtain ⟨rfl, rfl⟩ := hR38
    obtain ⟨n, hn, hn4⟩ : ∃ n : Nat, others % 5 = (n : Int) ∧ n ≤ 4 := ⟨(others % 5).toNat, by omega, by omega⟩
    rw [hn]
    refine (WL_pure rfl rfl (by decide) (Pu_assign rfl rfl) (WL_nil (X_then ?_)))
    refine W_seq ?_
    refine W.pre (K' := [(0, _), (1, _), (2, _), (6, _), (7, _), (16, _), (32, _)]) (L' := [(0, _), (300, _)]) ?_ ⟨rfl, ⟨rfl, ⟨rfl, ⟨rfl, ⟨rfl, ⟨rfl, ⟨rfl, trivial⟩⟩⟩⟩⟩⟩⟩ ⟨rfl, ⟨rfl, trivial⟩⟩
    refine W_regL (WL_cons rfl rfl (by decide) (OpT_call 500 [0, 300] [] rfl Try.call12 rfl rfl rfl (by decide) (by decide) (key_spec 11 _) (fun v39 Ps39 hR39 => ?_)))
    obtain ⟨rfl, rfl⟩ := hR39
    refine (WL_cons rfl rfl (by decide) (OpT_alloc (r := 501) rfl (zero_run (by kernel_rfl : (Try.prog.info? 33).bind (·.zero) = some (.agg (bs zeroId).toArray))) rfl (fun g501 => (WL_cons0 rfl rfl (OpT_storeAll (r := 501) rfl Try.sizeOf33 rfl rfl rfl rfl ((bs_length _).trans (keyB_length 11)) (bs_one _) ?_)))))
    refine (WL_nil (X_then ?_))
    refine W_seq ?_
    refine W.pre (K' := [(0, _), (1, _), (2, _), (6, _), (7, _), (9, _), (16, _), (32, _)]) (L' := [(0, _), (300, _), (501, _)]) ?_ ⟨rfl, ⟨rfl, ⟨rfl, ⟨rfl, ⟨rfl, ⟨rfl, ⟨rfl, ⟨rfl, trivial⟩⟩⟩⟩⟩⟩⟩⟩ ⟨rfl, ⟨rfl, ⟨rfl, trivial⟩⟩⟩
    refine W_regL (WL_pure rfl rfl (by decide) (Pu_move rfl rfl) (WL_pure rfl rfl (by decide) (Pu_loadBN (r := 501) rfl Try.isAgg33 Try.sizeOf33 rfl rfl ((bs_length _).trans (keyB_length 11)) (load_all ((bs_length _).trans (keyB_length 11)))) (WL_pure rfl rfl (by decide) (Pu_move rfl rfl) (WL_cons rfl rfl (by decide) (OpT_call 600 [0, 501] [300] rfl Try.call11 rfl rfl rfl (by decide) (by decide) (put_spec gc 400 [] (keyB 11) (keyB_length _) va a _ (rd_star 0 rfl (fun h hp => Rd.orig hra h hp))) (fun v43 Ps43 hR43 => ?_))))))
    obtain ⟨rfl, rfl⟩ := hR43
    rw [again_first h1a (by omega)]
    refine (WL_nil (X_then ?_))
    refine W_seq ?_
    refine W_seq ?_
    refine W.pre (K' := [(0, _), (1, _), (2, _), (6, _), (7, _), (9, _), (16, _), (32, _)]) (L' := [(0, _), (501, _), (600, _)]) ?_ ⟨rfl, ⟨rfl, ⟨rfl, ⟨rfl, ⟨rfl, ⟨rfl, ⟨rfl, ⟨rfl, trivial⟩⟩⟩⟩⟩⟩⟩⟩ ⟨rfl, ⟨rfl, ⟨rfl, trivial⟩⟩⟩
    refine W_regL (WL_pure rfl rfl (by decide) (Pu_assign rfl rfl) (WL_nil (X_then ?_)))
    refine W_block ?_
    refine W_loop (α := Nat) (fun i => [(1, vb), (2, .int .i64 (n : Int)), (7, .pointer (some ⟨gc, 0, none⟩)), (9, .pointer (some ⟨g501, 0, none⟩)), (10, .int .i64 (i : Int))]) (fun i => [(0, orig Wo), (501, blk g501 33 (bs (keyB 11))), (600, cacheP gc 400 (againL a i))]) (fun i => i ≤ n) (fun i => n - i) (0) (Nat.zero_le _) ⟨rfl, ⟨rfl, ⟨rfl, ⟨rfl, ⟨rfl, trivial⟩⟩⟩⟩⟩ ⟨rfl, ⟨rfl, ⟨rfl, trivial⟩⟩⟩ (fun x hx => ?_)
    refine W_seq ?_
    refine W_seq ?_
    refine W.pre (K' := [(1, _), (2, _), (7, _), (9, _), (10, _)]) (L' := [(0, _), (501, _), (600, _)]) ?_ ⟨rfl, ⟨rfl, ⟨rfl, ⟨rfl, ⟨rfl, trivial⟩⟩⟩⟩⟩ ⟨rfl, ⟨rfl, ⟨rfl, trivial⟩⟩⟩
    refine W_regL (WL_pure rfl rfl (by decide) (Pu_move rfl rfl) (WL_pure rfl rfl (by decide) (Pu_move rfl rfl) (WL_pure rfl rfl (by decide) (Pu_bin rfl rfl rfl (run_lss _ _ _ _ _ _)) (WL_nil (X_then ?_)))))
    refine W_cond rfl (fun hc46 => ?_) (fun hc46 => ?_)
    ·
      have hlt : x < n := by have := of_decide_eq_true hc46; omega
      refine W_skip (X_then ?_)
      refine W_seq ?_
      refine W_block ?_
      refine W.pre (K' := [(1, _), (2, _), (7, _), (9, _), (10, _), (46, _)]) (L' := [(0, _), (501, _), (600, _)]) ?_ ⟨rfl, ⟨rfl, ⟨rfl, ⟨rfl, ⟨rfl, ⟨rfl, trivial⟩⟩⟩⟩⟩⟩ ⟨rfl, ⟨rfl, ⟨rfl, trivial⟩⟩⟩
      refine W_regL (WL_pure rfl rfl (by decide) (Pu_move rfl rfl) (WL_pure rfl rfl (by decide) (Pu_move rfl rfl) (WL_cons rfl rfl (by decide) (OpT_call 700 [0, 501, 600] [] rfl Try.call12 rfl rfl rfl (by decide) (by decide) (key_spec (x : Int) _) (fun v51 Ps51 hR51 => ?_)))))
      obtain ⟨rfl, rfl⟩ := hR51
      refine (WL_pure rfl rfl (by decide) (Pu_move rfl rfl) (WL_pure rfl rfl (by decide) (Pu_conv rfl rfl (conv_byte _ _ Try.runUnderlying3 Try.runUnderlying5)) (WL_cons rfl rfl (by decide) (OpT_buildOnes (r := 701) (bs [byte (x : Int)]) rfl rfl Try.runUnderlying35 Try.sizeOf5 Try.zeroValue5 rfl rfl (by decide) rfl (bs_cells _) (fun v54 => (WL_cons rfl rfl (by decide) (OpT_call 800 [0, 501, 701] [600] rfl Try.call11 rfl rfl rfl (by decide) (by decide) (put_spec gc 400 (againL a x) (keyB (x : Int)) (keyB_length _) v54 [byte (x : Int)] _ (rd_star 2 rfl (fun _ hp => rowP_rd hp))) (fun v55 Ps55 hR55 => ?_))))))))
      obtain ⟨rfl, rfl⟩ := hR55
      refine (WL_nil (X_block (X_then ?_)))
      refine W.pre (K' := [(1, _), (2, _), (7, _), (9, _), (10, _), (46, _)]) (L' := [(0, _), (501, _), (701, _), (800, _)]) ?_ ⟨rfl, ⟨rfl, ⟨rfl, ⟨rfl, ⟨rfl, ⟨rfl, trivial⟩⟩⟩⟩⟩⟩ ⟨rfl, ⟨rfl, ⟨rfl, ⟨rfl, trivial⟩⟩⟩⟩
      refine W_regL (WL_pure rfl rfl (by decide) (Pu_move rfl rfl) (WL_pure rfl rfl (by decide) (Pu_bin rfl rfl rfl (run_add _ _ _ _ _ (by omega))) (WL_pure rfl rfl (by decide) (Pu_assign rfl rfl) (WL_nil ?_))))
      refine X_ren 800 600 rfl ?_
      exact X_round (x + 1) (by omega) (by omega) ⟨rfl, rfl, rfl, rfl, rfl, trivial⟩ ⟨rfl, rfl, look_eq rfl (by rw [again_step (by omega) (by omega)]), trivial⟩
    ·
      obtain rfl : x = n := by have := of_decide_eq_false hc46; omega
      refine W_exit (X_then_exit (X_then_exit (X_block_exit (X_then ?_))))
      refine W_seq ?_
      refine W.pre (K' := [(1, _), (2, _), (7, _), (9, _), (10, _), (46, _)]) (L' := [(0, _), (501, _), (600, _)]) ?_ ⟨rfl, ⟨rfl, ⟨rfl, ⟨rfl, ⟨rfl, ⟨rfl, trivial⟩⟩⟩⟩⟩⟩ ⟨rfl, ⟨rfl, ⟨rfl, trivial⟩⟩⟩
      refine W_regL (WL_pure rfl rfl (by decide) (Pu_move rfl rfl) (WL_pure rfl rfl (by decide) (Pu_loadBN (r := 501) rfl Try.isAgg33 Try.sizeOf33 rfl rfl ((bs_length _).trans (keyB_length 11)) (load_all ((bs_length _).trans (keyB_length 11)))) (WL_pure rfl rfl (by decide) (Pu_move rfl rfl) (WL_cons rfl rfl (by decide) (OpT_call 700 [0, 501] [600] rfl Try.call11 rfl rfl rfl (by decide) (by decide) (put_spec gc 400 _ (keyB 11) (keyB_length _) vb b _ (rd_star 0 rfl (fun h hp => Rd.orig hrb h hp))) (fun v59 Ps59 hR59 => ?_))))))
      obtain ⟨rfl, rfl⟩ := hR59
      obtain ⟨hL, hB⟩ := again_last (a := a) (b := b) (n := x) (by omega) h1b (by omega)
      rw [hL, hB]
      refine (WL_pure rfl rfl (by decide) (Pu_assign rfl rfl) (WL_nil (X_then ?_)))
      refine W_seq ?_
      refine W.pre (K' := [(1, _), (2, _), (7, _), (9, _), (10, _), (11, _), (46, _)]) (L' := [(0, _), (501, _), (700, _)]) ?_ ⟨rfl, ⟨rfl, ⟨rfl, ⟨rfl, ⟨rfl, ⟨rfl, ⟨rfl, trivial⟩⟩⟩⟩⟩⟩⟩ ⟨rfl, ⟨rfl, ⟨rfl, trivial⟩⟩⟩
      refine W_regL (WL_pure rfl rfl (by decide) (Pu_move rfl rfl) (WL_pure rfl rfl (by decide) (Pu_loadBN (r := 501) rfl Try.isAgg33 Try.sizeOf33 rfl rfl ((bs_length _).trans (keyB_length 11)) (load_all ((bs_length _).trans (keyB_length 11)))) (WL_cons rfl rfl (by decide) (OpT_call 800 [0, 501] [700] rfl Try.call17 rfl rfl rfl (by decide) (by decide) (get_spec gc 400 (againM b x) (keyB 11) (keyB_length _) _) (fun v63 Ps63 hR63 => ?_)))))
      obtain ⟨v63, rfl, rfl⟩ := hR63
      simp only [again_lookup (b := b) (n := x) (by omega), again_get (b := b) (n := x) (by omega), Option.getD_some, Option.isSome_some]
      refine (WL_pure rfl rfl (by decide) (Pu_move rfl rfl) (WL_pure rfl rfl (by decide) (Pu_extract rfl rfl rfl) (WL_pure rfl rfl (by decide) (Pu_extract rfl rfl rfl) (WL_pure rfl rfl (by decide) (Pu_assign rfl rfl) (WL_pure rfl rfl (by decide) (Pu_assign rfl rfl) (WL_nil (X_then ?_)))))))
      refine W_seq ?_
      refine W.pre (K' := [(1, _), (2, _), (7, _), (9, _), (10, _), (11, _), (12, _), (13, _), (46, _)]) (L' := [(0, _), (501, _), (800, _), (801, _)]) ?_ ⟨rfl, ⟨rfl, ⟨rfl, ⟨rfl, ⟨rfl, ⟨rfl, ⟨rfl, ⟨rfl, ⟨rfl, trivial⟩⟩⟩⟩⟩⟩⟩⟩⟩ ⟨rfl, ⟨rfl, ⟨rfl, ⟨rfl, trivial⟩⟩⟩⟩
      refine W_regL (WL_pure rfl rfl (by decide) (Pu_move rfl rfl) (WL_cons rfl rfl (by decide) (OpT_call 900 [0, 501, 801] [800] rfl Try.call14 rfl rfl rfl (by decide) (by decide) (keys_spec gc 400 (againM b x) _) (fun v67 Ps67 hR67 => ?_))))
      subst hR67
      refine (WL_pure rfl rfl (by decide) (Pu_assign rfl rfl) (WL_nil (X_then ?_)))
      refine W_seq ?_
      refine W.pre (K' := [(1, _), (2, _), (7, _), (9, _), (10, _), (11, _), (12, _), (13, _), (14, _), (46, _)]) (L' := [(0, _), (501, _), (801, _), (900, _), (901, _)]) ?_ ⟨rfl, ⟨rfl, ⟨rfl, ⟨rfl, ⟨rfl, ⟨rfl, ⟨rfl, ⟨rfl, ⟨rfl, ⟨rfl, trivial⟩⟩⟩⟩⟩⟩⟩⟩⟩⟩ ⟨rfl, ⟨rfl, ⟨rfl, ⟨rfl, ⟨rfl, trivial⟩⟩⟩⟩⟩
      have hids : Ids (keys (againM b x)).reverse := againM_ids b x
      refine W_draw (N := 35) (by kernel_rfl) rfl [(0, _), (501, _), (801, _), (901, _)] ⟨rfl, ⟨rfl, ⟨rfl, ⟨rfl, trivial⟩⟩⟩⟩ ?_
      refine (AH_take 0 rfl (by kernel_rfl) (by kernel_rfl) (by kernel_rfl) rfl rfl (by decide) (Pu_move rfl rfl) (AH_take 1 rfl (by kernel_rfl) (by kernel_rfl) (by kernel_rfl) rfl rfl (by decide) (Pu_move rfl rfl) (AH_takeT 2 rfl (by kernel_rfl) (by kernel_rfl) (by kernel_rfl) rfl rfl rfl rfl rfl (by decide) (Pu_move rfl rfl) (AH_take 3 rfl (by kernel_rfl) (by kernel_rfl) (by kernel_rfl) rfl rfl (by decide) (Pu_pickT rfl rfl rfl rfl) (AH_take 4 rfl (by kernel_rfl) (by kernel_rfl) (by kernel_rfl) rfl rfl (by decide) (Pu_move rfl rfl) (AH_takeT 5 rfl (by kernel_rfl) (by kernel_rfl) (by kernel_rfl) rfl rfl rfl rfl rfl (by decide) (Pu_move rfl rfl) (AH_takeT 6 rfl (by kernel_rfl) (by kernel_rfl) (by kernel_rfl) rfl rfl rfl rfl rfl (by decide) (Pu_convBS (r := 801) rfl Try.underlying35 Try.underlying5 Try.underlying9 rfl rfl rowB_rd) (AH_takeT 7 rfl (by kernel_rfl) (by kernel_rfl) (by kernel_rfl) rfl rfl rfl rfl rfl (by decide) (Pu_move rfl rfl) (AH_takeT 8 rfl (by kernel_rfl) (by kernel_rfl) (by kernel_rfl) rfl rfl rfl rfl rfl (by decide) (Pu_convBS (r := 0) rfl Try.underlying35 Try.underlying5 Try.underlying9 rfl rfl (fun h hp => Rd.orig hrb h hp)) (AH_takeT 9 rfl (by kernel_rfl) (by kernel_rfl) (by kernel_rfl) rfl rfl rfl rfl rfl (by decide) (Pu_bin rfl rfl rfl (run_strEq _ _ _ _ _)) (AH_take 10 rfl (by kernel_rfl) (by kernel_rfl) (by kernel_rfl) rfl rfl (by decide) (Pu_pickT rfl rfl rfl rfl) (AH_take 11 rfl (by kernel_rfl) (by kernel_rfl) (by kernel_rfl) rfl rfl (by decide) (Pu_move rfl rfl) (AH_takeT 12 rfl (by kernel_rfl) (by kernel_rfl) (by kernel_rfl) rfl rfl rfl (by simp) rfl (by decide) (Pu_move rfl rfl) (AH_takeT 14 rfl (by kernel_rfl) (by kernel_rfl) (by kernel_rfl) rfl rfl rfl (by simp) rfl (by decide) (Pu_move rfl rfl) (AH_takeT 15 rfl (by kernel_rfl) (by kernel_rfl) (by kernel_rfl) rfl rfl rfl (by simp) rfl (by decide) (Pu_len (r := 0) rfl Try.runUnderlying35 rfl rfl (fun h hp => Rd.orig hrb h hp)) (AH_takeT 16 rfl (by kernel_rfl) (by kernel_rfl) (by kernel_rfl) rfl rfl rfl (by simp) rfl (by decide) (Pu_move rfl rfl) (AH_takeT 17 rfl (by kernel_rfl) (by kernel_rfl) (by kernel_rfl) rfl rfl rfl (by simp) rfl (by decide) (Pu_bin rfl rfl rfl (run_add _ _ _ _ _ (by omega))) (AH_ready [13] (by kernel_rfl) (by decide) ?_))))))))))))))))))
      refine AHs_gT rfl rfl rfl rfl (by simp) rfl (by decide) (OpT_call 1000 [0, 501, 801, 901] [900] rfl Try.call13 rfl rfl rfl (by decide) (by decide) (total_spec gc 400 (againM b x) _) (fun v81 Ps81 hR81 => ?_)) ?_
      ·
        obtain ⟨rfl, rfl⟩ := hR81
        refine ⟨⟨rfl, ⟨rfl, ⟨rfl, ⟨rfl, trivial⟩⟩⟩⟩, ?_⟩
        refine (AH_takeT 18 rfl (by kernel_rfl) (by kernel_rfl) (by kernel_rfl) rfl rfl rfl (by simp) rfl (by decide) (Pu_bin rfl rfl rfl (run_eql _ _ _ _ _ _)) (AH_take 19 rfl (by kernel_rfl) (by kernel_rfl) (by kernel_rfl) rfl rfl (by decide) (Pu_pickT rfl rfl (by simp) rfl) (AH_take 20 rfl (by kernel_rfl) (by kernel_rfl) (by kernel_rfl) rfl rfl (by decide) (Pu_move rfl rfl) (AH_takeT 21 rfl (by kernel_rfl) (by kernel_rfl) (by kernel_rfl) rfl rfl rfl (by rw [againM_total]; simp) rfl (by decide) (Pu_move rfl rfl) (AH_takeT 22 rfl (by kernel_rfl) (by kernel_rfl) (by kernel_rfl) rfl rfl rfl (by rw [againM_total]; simp) rfl (by decide) (Pu_len (r := 901) rfl Try.runUnderlying37 rfl rfl rowI_rd) (AH_takeT 23 rfl (by kernel_rfl) (by kernel_rfl) (by kernel_rfl) rfl rfl rfl (by rw [againM_total]; simp) rfl (by decide) (Pu_move rfl rfl) (AH_takeT 24 rfl (by kernel_rfl) (by kernel_rfl) (by kernel_rfl) rfl rfl rfl (by rw [againM_total]; simp) rfl (by decide) (Pu_bin rfl rfl rfl (run_add _ _ _ _ _ (by omega))) (AH_takeT 25 rfl (by kernel_rfl) (by kernel_rfl) (by kernel_rfl) rfl rfl rfl (by rw [againM_total]; simp) rfl (by decide) (Pu_bin rfl rfl rfl (run_eql _ _ _ _ _ _)) (AH_take 26 rfl (by kernel_rfl) (by kernel_rfl) (by kernel_rfl) rfl rfl (by decide) (Pu_pickT rfl rfl (by rw [againM_total]; simp) rfl) (AH_take 27 rfl (by kernel_rfl) (by kernel_rfl) (by kernel_rfl) rfl rfl (by decide) (Pu_move rfl rfl) (AH_takeT 28 rfl (by kernel_rfl) (by kernel_rfl) (by kernel_rfl) rfl rfl rfl (by rw [(againM_keys b x).1]; simp) rfl (by decide) (Pu_move rfl rfl) (AH_takeT 29 rfl (by kernel_rfl) (by kernel_rfl) (by kernel_rfl) rfl rfl rfl (by rw [(againM_keys b x).1]; simp) rfl (by decide) (Pu_idxS (r := 901) rfl Try.runUnderlying37 Try.sizeOf33 rfl rfl rfl rowI_rd (by rw [(againM_keys b x).1]; omega)) (AH_takeT 30 rfl (by kernel_rfl) (by kernel_rfl) (by kernel_rfl) rfl rfl rfl (by rw [(againM_keys b x).1]; simp) rfl (by decide) (Pu_loadSN (r := 901) rfl Try.isAgg33 Try.sizeOf33 rfl rfl rowI_rd ((bs_length _).trans (by rw [(againM_keys b x).2]; exact keyB_length 11)) (by decide) (idsC_get (k := 0) hids (by rw [(againM_keys b x).1]; omega))) (AH_takeT 31 rfl (by kernel_rfl) (by kernel_rfl) (by kernel_rfl) rfl rfl rfl (by rw [(againM_keys b x).1]; simp) rfl (by decide) (Pu_loadBN (r := 501) rfl Try.isAgg33 Try.sizeOf33 rfl rfl ((bs_length _).trans (keyB_length 11)) (load_all ((bs_length _).trans (keyB_length 11)))) (AH_takeT 32 rfl (by kernel_rfl) (by kernel_rfl) (by kernel_rfl) rfl rfl rfl (by rw [(againM_keys b x).1]; simp) rfl (by decide) (Pu_bin rfl rfl rfl (run_idEq _ _ (by rw [(againM_keys b x).2]; exact keyB_length 11) (keyB_length 11) _ _)) (AH_take 33 rfl (by kernel_rfl) (by kernel_rfl) (by kernel_rfl) rfl rfl (by decide) (Pu_pickT rfl rfl (by rw [(againM_keys b x).1]; simp) rfl) (AH_take 34 rfl (by kernel_rfl) (by kernel_rfl) (by kernel_rfl) rfl rfl (by decide) (Pu_assign rfl rfl) (AH_done (by kernel_rfl) (X_then ?_)))))))))))))))))))
        refine W_ret ?_
        exact X_ret [] (Ps := []) (res1 Try.results7 rfl) rfl (by decide) (bool_val12 (by rw [(againM_keys b x).2]; simp))
      exact AHs_nil

theorem cacheAgain_any (W : World) (v0 : Value) (l0 : List UInt8) (hr0 : RdB W v0 l0) (hl0 : l0.length ≤ maxLen) (hs0 : l0.length ≤ 140737488351232) (v1 : Value) (l1 : List UInt8) (hr1 : RdB W v1 l1) (hl1 : l1.length ≤ maxLen) (hs1 : l1.length ≤ 140737488351232) (a2 : Int) (lo2 : -9223372036854775808 ≤ a2) (hi2 : a2 ≤ 9223372036854775807) :
    Calls Try.prog 7 #[v0, v1, .int .i64 a2] W fun e W' => e = .returned (.bool true) ∧ Chg [] W W' := calls_law (cacheAgain_law W v0 l0 hr0 hs0 v1 l1 hr1 hs1 a2)
end Go.Proofs.Ytamhhkjddmjanaa
