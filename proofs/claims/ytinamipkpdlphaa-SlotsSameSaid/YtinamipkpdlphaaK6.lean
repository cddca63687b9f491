/- Texts of this proof, one behind the other: SlotB, SlotD, SlotE, SlotF, SlotG, Open, Open2. -/
import Derived.Test.YtinamipkpdlphaaK5
import Derived.Test.YtinamipkpdlphaaK1
import Derived.ProofKit
import Derived.Deep.Slices
import Derived.Deep.Fields
import Derived.ChangeOld
import Derived.OpenShut
/- Slots: a root set. -/
namespace Go.Proofs.Ytinamipkpdlphaa
open Go.RowKit
set_option linter.unusedVariables false
set_option linter.unusedSimpArgs false
set_option maxRecDepth 8000

theorem pRoot_pl (l : List UInt8) : (pRoot l).pl.length ≤ l.length := by
  unfold pRoot
  split
  · show ((l.drop 1).take 56).length ≤ _
    simp only [List.length_take, List.length_drop]
    omega
  · exact Nat.zero_le _
theorem slot_over {k : List UInt8} (h : k.length = 32) : over (bkC zeroId 0 (.slice none 0 0) 0 0) 0 (bs k) = bkC k 0 (.slice none 0 0) 0 0 := by
  unfold over bkC
  rw [bs_length, h, List.take_zero, List.nil_append, List.drop_append_of_le_length (by rw [bs_length]; decide), List.drop_of_length_le (by rw [bs_length]; decide), List.nil_append]
theorem bk_set_ver {k : List UInt8} {n : Int} {v : Value} {s e : Int} (h : k.length = 32) (n' : Int) : (bkC k n v s e).set 32 (.int .i64 n') = bkC k n' v s e := by
  unfold bkC; rw [List.set_append_right _ _ (by rw [bs_length]; omega), bs_length, h]; rfl
theorem bk_set_src {k : List UInt8} {n : Int} {v : Value} {s e : Int} (h : k.length = 32) (s' : Int) : (bkC k n v s e).set 34 (.int .i64 s') = bkC k n v s' e := by
  unfold bkC; rw [List.set_append_right _ _ (by rw [bs_length]; omega), bs_length, h]; rfl
theorem slot_build {k : List UInt8} (h : k.length = 32) (n : Int) (v : Value) (s e : Int) : Value.agg ((((over (bkC zeroId 0 (.slice none 0 0) 0 0) 0 (bs k)).set 32 (.int .i64 n)).set 33 v).set 34 (.int .i64 s) |>.set 35 (.int .i64 e)).toArray = .agg (bkC k n v s e).toArray := by
  rw [slot_over h, bk_set_ver h, bk_set_data h, bk_set_src h, bk_set_exp h]
theorem slot_fit {k : List UInt8} (h : k.length = 32) : (over (bkC zeroId 0 (.slice none 0 0) 0 0) 0 (bs k)).length = 36 := by rw [slot_over h, bkC_length h]
theorem setO_arg {o : Option S1} {l : List UInt8} {src exp now : Int} (h : (decide (src < 0) || decide (exp ≤ now)) = true) : setO o l src exp now = (1, o) := by unfold setO; rw [if_pos h]
theorem setO_cut {o : Option S1} {l : List UInt8} {src exp now : Int} (h : (decide (src < 0) || decide (exp ≤ now)) = false) (h2 : pRootE l ≠ 0) : setO o l src exp now = (pRootE l, o) := by unfold setO; rw [if_neg (by rw [h]; decide), if_pos h2]
noncomputable abbrev chkL (l : List UInt8) : Int := checkT (pRoot l).pl (claimL (pRoot l).ver (pRoot l).top) (pRoot l).tl
theorem setO_sign {o : Option S1} {l : List UInt8} {src exp now : Int} (h : (decide (src < 0) || decide (exp ≤ now)) = false) (h2 : pRootE l = 0) (h3 : chkL l ≠ 0) : setO o l src exp now = (chkL l, o) := by unfold setO; rw [if_neg (by rw [h]; decide), if_neg (by rw [h2]; simp), if_pos h3]
theorem setO_none {l : List UInt8} {src exp now : Int} (h : (decide (src < 0) || decide (exp ≤ now)) = false) (h2 : pRootE l = 0) (h3 : chkL l = 0) : setO none l src exp now = (0, some ⟨sha (pRoot l).pl, (pRoot l).ver, l, src, exp⟩) := by unfold setO; rw [if_neg (by rw [h]; decide), if_neg (by rw [h2]; simp), if_neg (fun q => q h3)]
theorem setO_stale {p : S1} {l : List UInt8} {src exp now : Int} (h : (decide (src < 0) || decide (exp ≤ now)) = false) (h2 : pRootE l = 0) (h3 : chkL l = 0) (h4 : (pRoot l).ver < p.ver) : setO (some p) l src exp now = (14, some p) := by unfold setO; rw [if_neg (by rw [h]; decide), if_neg (by rw [h2]; simp), if_neg (fun q => q h3)]; simp only [if_pos h4]
theorem setO_same {p : S1} {l : List UInt8} {src exp now : Int} (h : (decide (src < 0) || decide (exp ≤ now)) = false) (h2 : pRootE l = 0) (h3 : chkL l = 0) (h4 : ¬ (pRoot l).ver < p.ver) (h5 : p.ver = (pRoot l).ver) : setO (some p) l src exp now = (0, some ⟨p.key, p.ver, p.data, p.src, max p.exp exp⟩) := by unfold setO; rw [if_neg (by rw [h]; decide), if_neg (by rw [h2]; simp), if_neg (fun q => q h3)]; simp only [if_neg h4, if_pos h5]
theorem setO_newer {p : S1} {l : List UInt8} {src exp now : Int} (h : (decide (src < 0) || decide (exp ≤ now)) = false) (h2 : pRootE l = 0) (h3 : chkL l = 0) (h4 : ¬ (pRoot l).ver < p.ver) (h5 : ¬ p.ver = (pRoot l).ver) : setO (some p) l src exp now = (0, some ⟨sha (pRoot l).pl, (pRoot l).ver, l, src, exp⟩) := by unfold setO; rw [if_neg (by rw [h]; decide), if_neg (by rw [h2]; simp), if_neg (fun q => q h3)]; simp only [if_neg h4, if_neg h5]
theorem put_one {e : EB} {k : List UInt8} {v : Value} (h : e.1.key = k) : putQ k v (entsOf [e]) = [(k, v)] := by
  subst h
  unfold putQ entsOf mbs
  simp [lookQ, setQ]
theorem put_turn {gm : Nat} {e : EB} {k : List UInt8} {v : Value} (h : e.1.key = k) {hh : Hlt} (hp : mapB gm (putQ k v (entsOf [e])) none hh) : mapB gm [(k, v)] none hh := by rw [put_one h] at hp; exact hp
theorem setS_none (g : Nat) (most : Int) (hm : 1 ≤ most) (v : Value) (l : List UInt8) (hl : l.length ≤ 1000000) (src exp now : Int) (F : HP) (hF : ∀ h, F h → rdB v l h) : CallsS Try.prog 10 #[.pointer (some ⟨g, 0, none⟩), v, .int .i64 src, .int .i64 exp, .int .i64 now] F [slotP g most none] (fun r Ps => r = .int .i64 (setO none l src exp now).1 ∧ Ps = [slotP g most (setO none l src exp now).2]) := by
  refine callsS_enter Try.func10 rfl Try.ntmps10 (by simp) (fun E => ?_)
  refine W_seq ?_
  refine W.pre (K' := [(0, _), (1, _), (2, _), (3, _), (4, _)]) (L' := [(0, _), (1, _)]) ?_ ⟨rfl, ⟨rfl, ⟨rfl, ⟨rfl, ⟨rfl, trivial⟩⟩⟩⟩⟩ ⟨rfl, ⟨rfl, trivial⟩⟩
  refine W_regL (WL_pure rfl rfl (by decide) (Pu_assign rfl rfl) (WL_nil (X_then ?_)))
  refine W_seq ?_
  refine W_seq ?_
  refine W.pre (K' := [(0, _), (1, _), (2, _), (3, _), (4, _), (10, _)]) (L' := [(0, _), (1, _)]) ?_ ⟨rfl, ⟨rfl, ⟨rfl, ⟨rfl, ⟨rfl, ⟨rfl, trivial⟩⟩⟩⟩⟩⟩ ⟨rfl, ⟨rfl, trivial⟩⟩
  refine W_regL (WL_pure rfl rfl (by decide) (Pu_move rfl rfl) (WL_pure rfl rfl (by decide) (Pu_bin rfl rfl rfl (run_lss _ _ _ _ _ _)) (WL_pure rfl rfl (by decide) (Pu_move rfl rfl) (WL_guardP rfl rfl rfl rfl (by decide) (fun hb => (Pu_move rfl rfl)) (WL_guardP rfl rfl rfl rfl (by decide) (fun hb => (Pu_move rfl rfl)) (WL_guardP rfl rfl rfl rfl (by decide) (fun hb => (Pu_bin rfl (ev_gv rfl hb) (ev_gv rfl hb) (run_leq _ _ _ _ _ _))) (WL_pure rfl rfl (by decide) (Pu_or rfl rfl rfl) (WL_nil (X_then ?_)))))))))
  refine W_cond rfl (fun hc23 => ?_) (fun hc23 => ?_)
  ·
    have hset := setO_arg (o := none) (l := l) hc23
    refine W_seq ?_
    refine W.pre (K' := [(0, _), (1, _), (2, _), (3, _), (4, _), (10, _), (23, _)]) (L' := [(0, _), (1, _)]) ?_ ⟨rfl, ⟨rfl, ⟨rfl, ⟨rfl, ⟨rfl, ⟨rfl, ⟨rfl, trivial⟩⟩⟩⟩⟩⟩⟩ ⟨rfl, ⟨rfl, trivial⟩⟩
    refine W_regL (WL_pure rfl rfl (by decide) (Pu_assign rfl rfl) (WL_nil (X_then ?_)))
    refine W_ret (X_then_ret ?_)
    exact X_ret [1] (Ps := [_]) (res1 Try.results10 rfl) rfl (by decide) ⟨by rw [hset]; try rfl, by rw [hset]; try rfl⟩
  ·
    refine W_skip (X_then ?_)
    refine W_seq ?_
    refine W.pre (K' := [(0, _), (1, _), (2, _), (3, _), (4, _), (10, _), (23, _)]) (L' := [(0, _), (1, _)]) ?_ ⟨rfl, ⟨rfl, ⟨rfl, ⟨rfl, ⟨rfl, ⟨rfl, ⟨rfl, trivial⟩⟩⟩⟩⟩⟩⟩ ⟨rfl, ⟨rfl, trivial⟩⟩
    refine W_regL (WL_pure rfl rfl (by decide) (Pu_move rfl rfl) (WL_cons rfl rfl (by decide) (OpT_call 200 [0, 1] [] rfl Try.call20 rfl rfl rfl (by decide) (by decide) (parseRoot_spec v l (by omega) _ (rd_star 0 rfl hF)) (fun v26 Ps26 hR26 => ?_))))
    obtain ⟨pv, tv, rfl, rfl⟩ := hR26
    have ht := pRoot_top l
    refine WL_fact (r := 200) rfl (fun h hp => rd_one (rowB_rd _ hp)) (fun hpo => ?_)
    refine WL_fact (r := 201) rfl (fun h hp => rd_one (rowB_rd _ hp)) (fun hto => ?_)
    refine (WL_pure rfl rfl (by decide) (Pu_move rfl rfl) (WL_pure rfl rfl (by decide) (Pu_extract rfl rfl rfl) (WL_pure rfl rfl (by decide) (Pu_extract rfl rfl rfl) (WL_cons rfl rfl (by decide) (OpT_alloc (r := 203) (cs := (rootC nilS 0 zeroId nilS)) rfl (zero_run (by kernel_rfl : (Try.prog.info? 39).bind (·.zero) = some (.agg (rootC nilS 0 zeroId nilS).toArray))) rfl (fun g203 => (WL_cons0 rfl rfl (OpT_storeAll (r := 203) rfl Try.sizeOf39 rfl rfl rfl (rootC_length zeroId_length) (rootC_length ht) (one_root hpo hto) ?_))))))))
    skip
    refine (WL_pure rfl rfl (by decide) (Pu_assign rfl rfl) (WL_nil (X_then ?_)))
    refine W_seq ?_
    refine W_seq ?_
    refine W.pre (K' := [(0, _), (1, _), (2, _), (3, _), (4, _), (10, _), (11, _), (12, _), (23, _)]) (L' := [(0, _), (1, _), (200, _), (201, _), (203, _)]) ?_ ⟨rfl, ⟨rfl, ⟨rfl, ⟨rfl, ⟨rfl, ⟨rfl, ⟨rfl, ⟨rfl, ⟨rfl, trivial⟩⟩⟩⟩⟩⟩⟩⟩⟩ ⟨rfl, ⟨rfl, ⟨rfl, ⟨rfl, ⟨rfl, trivial⟩⟩⟩⟩⟩
    refine W_regL (WL_pure rfl rfl (by decide) (Pu_move rfl rfl) (WL_pure rfl rfl (by decide) (Pu_bin rfl rfl rfl (run_neq _ _ _ _ _ _)) (WL_nil (X_then ?_))))
    refine W_cond rfl (fun hc30 => ?_) (fun hc30 => ?_)
    ·
      have hne : pRootE l ≠ 0 := by simpa using hc30
      have hset := setO_cut (o := none) hc23 hne
      refine W_seq ?_
      refine W.pre (K' := [(0, _), (1, _), (2, _), (3, _), (4, _), (10, _), (11, _), (12, _), (23, _), (30, _)]) (L' := [(0, _), (1, _), (200, _), (201, _), (203, _)]) ?_ ⟨rfl, ⟨rfl, ⟨rfl, ⟨rfl, ⟨rfl, ⟨rfl, ⟨rfl, ⟨rfl, ⟨rfl, ⟨rfl, trivial⟩⟩⟩⟩⟩⟩⟩⟩⟩⟩ ⟨rfl, ⟨rfl, ⟨rfl, ⟨rfl, ⟨rfl, trivial⟩⟩⟩⟩⟩
      refine W_regL (WL_pure rfl rfl (by decide) (Pu_move rfl rfl) (WL_pure rfl rfl (by decide) (Pu_assign rfl rfl) (WL_nil (X_then ?_))))
      refine W_ret (X_then_ret ?_)
      exact X_ret [1] (Ps := [_]) (res1 Try.results10 rfl) rfl (by decide) ⟨by rw [hset]; try rfl, by rw [hset]; try rfl⟩
    ·
      have hok : pRootE l = 0 := by simpa using hc30
      refine W_skip (X_then ?_)
      refine W_seq ?_
      refine W_seq ?_
      refine W.pre (K' := [(0, _), (1, _), (2, _), (3, _), (4, _), (10, _), (11, _), (12, _), (23, _), (30, _)]) (L' := [(0, _), (1, _), (200, _), (201, _), (203, _)]) ?_ ⟨rfl, ⟨rfl, ⟨rfl, ⟨rfl, ⟨rfl, ⟨rfl, ⟨rfl, ⟨rfl, ⟨rfl, ⟨rfl, trivial⟩⟩⟩⟩⟩⟩⟩⟩⟩⟩ ⟨rfl, ⟨rfl, ⟨rfl, ⟨rfl, ⟨rfl, trivial⟩⟩⟩⟩⟩
      refine W_draw (N := 11) (by kernel_rfl) rfl [(0, _), (203, _)] ⟨rfl, ⟨rfl, trivial⟩⟩ ?_
      refine (AH_take 0 rfl (by kernel_rfl) (by kernel_rfl) (by kernel_rfl) rfl rfl (by decide) (Pu_fieldAddrB (off := 0) rfl rfl (by kernel_rfl)) (AH_take 1 rfl (by kernel_rfl) (by kernel_rfl) (by kernel_rfl) rfl rfl (by decide) (Pu_loadB (r := 203) rfl Try.isAgg30 rfl rfl rfl) (AH_take 2 rfl (by kernel_rfl) (by kernel_rfl) (by kernel_rfl) rfl rfl (by decide) (Pu_fieldAddrB (off := 1) rfl rfl (by kernel_rfl)) (AH_take 3 rfl (by kernel_rfl) (by kernel_rfl) (by kernel_rfl) rfl rfl (by decide) (Pu_loadB (r := 203) rfl Try.isAgg3 rfl rfl rfl) (AH_take 4 rfl (by kernel_rfl) (by kernel_rfl) (by kernel_rfl) rfl rfl (by decide) (Pu_fieldAddrB (off := 2) rfl rfl (by kernel_rfl)) (AH_take 5 rfl (by kernel_rfl) (by kernel_rfl) (by kernel_rfl) rfl rfl (by decide) (Pu_loadBN (r := 203) rfl Try.isAgg29 Try.sizeOf29 rfl rfl ((bs_length _).trans ht) (take_rtop ht)) (AH_take 7 rfl (by kernel_rfl) (by kernel_rfl) (by kernel_rfl) rfl rfl (by decide) (Pu_fieldAddrB (off := 34) rfl rfl (by kernel_rfl)) (AH_take 8 rfl (by kernel_rfl) (by kernel_rfl) (by kernel_rfl) rfl rfl (by decide) (Pu_loadB (r := 203) rfl Try.isAgg30 rfl rfl (root_tail ht)) (AH_ready [6] (by kernel_rfl) (by decide) ?_)))))))))
      refine AHs_cons rfl rfl rfl (by decide) (OpT_call 300 [0, 1, 200, 201, 203] [] rfl Try.call22 rfl rfl rfl (by decide) (by decide) (claim_spec (pRoot l).ver (pRoot l).top ht _) (fun v38 Ps38 hR38 => ?_)) ?_
      ·
        subst hR38
        refine ⟨⟨rfl, ⟨rfl, trivial⟩⟩, ?_⟩
        refine (AH_ready [9] (by kernel_rfl) (by decide) ?_)
        refine AHs_cons rfl rfl rfl (by decide) (OpT_call 400 [0, 1, 200, 201, 203, 300] [] rfl Try.call21 rfl rfl rfl (by decide) (by decide) (lcheck_spec pv _ tv (pRoot l).pl (claimL (pRoot l).ver (pRoot l).top) (pRoot l).tl (by rw [claimL_length ht]; omega) _ (rd_star 2 rfl rowB_rd) (rd_star 5 rfl rowB_rd) (rd_star 3 rfl rowB_rd)) (fun v41 Ps41 hR41 => ?_)) ?_
        ·
          obtain ⟨rfl, rfl⟩ := hR41
          refine ⟨⟨rfl, ⟨rfl, trivial⟩⟩, ?_⟩
          refine (AH_take 10 rfl (by kernel_rfl) (by kernel_rfl) (by kernel_rfl) rfl rfl (by decide) (Pu_assign rfl rfl) (AH_done (by kernel_rfl) (X_then ?_)))
          refine W_seq ?_
          refine W.pre (K' := [(0, _), (1, _), (2, _), (3, _), (4, _), (10, _), (11, _), (12, _), (13, _), (23, _), (30, _)]) (L' := [(0, _), (1, _), (200, _), (201, _), (203, _), (300, _)]) ?_ ⟨rfl, ⟨rfl, ⟨rfl, ⟨rfl, ⟨rfl, ⟨rfl, ⟨rfl, ⟨rfl, ⟨rfl, ⟨rfl, ⟨rfl, trivial⟩⟩⟩⟩⟩⟩⟩⟩⟩⟩⟩ ⟨rfl, ⟨rfl, ⟨rfl, ⟨rfl, ⟨rfl, ⟨rfl, trivial⟩⟩⟩⟩⟩⟩
          refine W_regL (WL_pure rfl rfl (by decide) (Pu_move rfl rfl) (WL_pure rfl rfl (by decide) (Pu_bin rfl rfl rfl (run_neq _ _ _ _ _ _)) (WL_nil (X_then ?_))))
          refine W_cond rfl (fun hc43 => ?_) (fun hc43 => ?_)
          ·
            have hbad : chkL l ≠ 0 := by simpa using hc43
            have hset := setO_sign (o := none) hc23 hok hbad
            refine W_seq ?_
            refine W.pre (K' := [(0, _), (1, _), (2, _), (3, _), (4, _), (10, _), (11, _), (12, _), (13, _), (23, _), (30, _), (43, _)]) (L' := [(0, _), (1, _), (200, _), (201, _), (203, _), (300, _)]) ?_ ⟨rfl, ⟨rfl, ⟨rfl, ⟨rfl, ⟨rfl, ⟨rfl, ⟨rfl, ⟨rfl, ⟨rfl, ⟨rfl, ⟨rfl, ⟨rfl, trivial⟩⟩⟩⟩⟩⟩⟩⟩⟩⟩⟩⟩ ⟨rfl, ⟨rfl, ⟨rfl, ⟨rfl, ⟨rfl, ⟨rfl, trivial⟩⟩⟩⟩⟩⟩
            refine W_regL (WL_pure rfl rfl (by decide) (Pu_move rfl rfl) (WL_pure rfl rfl (by decide) (Pu_assign rfl rfl) (WL_nil (X_then ?_))))
            refine W_ret (X_then_ret ?_)
            exact X_ret [1] (Ps := [_]) (res1 Try.results10 rfl) rfl (by decide) ⟨by rw [hset]; try rfl, by rw [hset]; try rfl⟩
          ·
            have hgood : chkL l = 0 := by simpa using hc43
            refine W_skip (X_then ?_)
            refine W_seq ?_
            refine W.pre (K' := [(0, _), (1, _), (2, _), (3, _), (4, _), (10, _), (11, _), (12, _), (13, _), (23, _), (30, _), (43, _)]) (L' := [(0, _), (1, _), (200, _), (201, _), (203, _), (300, _)]) ?_ ⟨rfl, ⟨rfl, ⟨rfl, ⟨rfl, ⟨rfl, ⟨rfl, ⟨rfl, ⟨rfl, ⟨rfl, ⟨rfl, ⟨rfl, ⟨rfl, trivial⟩⟩⟩⟩⟩⟩⟩⟩⟩⟩⟩⟩ ⟨rfl, ⟨rfl, ⟨rfl, ⟨rfl, ⟨rfl, ⟨rfl, trivial⟩⟩⟩⟩⟩⟩
            refine W_regL (WL_pure rfl rfl (by decide) (Pu_move rfl rfl) (WL_pure rfl rfl (by decide) (Pu_move rfl rfl) (WL_cons rfl rfl (by decide) (OpT_call 500 [0, 200, 201, 203, 300] [1] rfl Try.call23 rfl rfl rfl (by decide) (by decide) (sweepS_spec g most now none (fun q h => by cases h) _) (fun v47 Ps47 hR47 => ?_)))))
            obtain ⟨rfl, rfl⟩ := hR47
            skip
            refine (WL_nil (X_then ?_))
            refine W_cut (α := Nat × Value) (fun z => [(0, .pointer (some ⟨g, 0, none⟩)), (3, .int .i64 exp), (11, .pointer (some ⟨g203, 0, none⟩)), (14, .pointer (some ⟨z.1, 0, none⟩))]) (fun z => [(0, F), (500, slotP g most none), (203, blk g203 39 (rootC pv (pRoot l).ver (pRoot l).top tv)), (182, blk z.1 37 (bkC (sha (pRoot l).pl) (pRoot l).ver z.2 src exp)), (183, rowB 5 z.2 l)]) (fun z => z.2.oneCell' = true) ?_ (fun z hzo => ?_)
            ·
              refine W.pre (K' := [(0, _), (1, _), (2, _), (3, _), (4, _), (10, _), (11, _), (12, _), (13, _), (23, _), (30, _), (43, _)]) (L' := [(0, _), (200, _), (201, _), (203, _), (300, _), (500, _)]) ?_ ⟨rfl, ⟨rfl, ⟨rfl, ⟨rfl, ⟨rfl, ⟨rfl, ⟨rfl, ⟨rfl, ⟨rfl, ⟨rfl, ⟨rfl, ⟨rfl, trivial⟩⟩⟩⟩⟩⟩⟩⟩⟩⟩⟩⟩ ⟨rfl, ⟨rfl, ⟨rfl, ⟨rfl, ⟨rfl, ⟨rfl, trivial⟩⟩⟩⟩⟩⟩
              refine W_draw (N := 12) (by kernel_rfl) rfl [(0, _), (203, _)] ⟨rfl, ⟨rfl, trivial⟩⟩ ?_
              refine (AH_take 0 rfl (by kernel_rfl) (by kernel_rfl) (by kernel_rfl) rfl rfl (by decide) (Pu_fieldAddrB (off := 0) rfl rfl (by kernel_rfl)) (AH_take 1 rfl (by kernel_rfl) (by kernel_rfl) (by kernel_rfl) rfl rfl (by decide) (Pu_loadB (r := 203) rfl Try.isAgg30 rfl rfl rfl) (AH_take 3 rfl (by kernel_rfl) (by kernel_rfl) (by kernel_rfl) rfl rfl (by decide) (Pu_fieldAddrB (off := 1) rfl rfl (by kernel_rfl)) (AH_take 4 rfl (by kernel_rfl) (by kernel_rfl) (by kernel_rfl) rfl rfl (by decide) (Pu_loadB (r := 203) rfl Try.isAgg3 rfl rfl rfl) (AH_take 5 rfl (by kernel_rfl) (by kernel_rfl) (by kernel_rfl) rfl rfl (by decide) (Pu_move rfl rfl) (AH_take 7 rfl (by kernel_rfl) (by kernel_rfl) (by kernel_rfl) rfl rfl (by decide) (Pu_move rfl rfl) (AH_take 8 rfl (by kernel_rfl) (by kernel_rfl) (by kernel_rfl) rfl rfl (by decide) (Pu_move rfl rfl) (AH_ready [2, 10] (by kernel_rfl) (by decide) ?_))))))))
              refine AHs_cons rfl rfl rfl (by decide) (OpT_call 600 [0, 200, 201, 203, 300, 500] [] rfl Try.call24 rfl rfl rfl (by decide) (by decide) (sum_spec pv (pRoot l).pl (by have := pRoot_pl l; omega) _ (rd_star 1 rfl rowB_rd)) (fun v50 Ps50 hR50 => ?_)) ?_
              ·
                obtain ⟨rfl, rfl⟩ := hR50
                refine ⟨⟨rfl, ⟨rfl, trivial⟩⟩, ?_⟩
                refine (AH_ready [6, 10] (by kernel_rfl) (by decide) ?_)
                refine AHs_cons rfl rfl rfl (by decide) (OpT_call 700 [0, 200, 201, 203, 300, 500] [] rfl Try.call25 rfl rfl rfl (by decide) (by decide) (clone_spec v l (by omega) _ (rd_star 0 rfl hF)) (fun v54 Ps54 hR54 => ?_)) ?_
                ·
                  obtain ⟨ho54, rfl⟩ := hR54
                  refine ⟨⟨rfl, ⟨rfl, trivial⟩⟩, ?_⟩
                  skip
                  refine (AH_take 9 rfl (by kernel_rfl) (by kernel_rfl) (by kernel_rfl) rfl rfl (by decide) (Pu_build (V := .agg (bkC (sha (pRoot l).pl) (pRoot l).ver v54 src exp).toArray) [(0, 32), (32, 1), (33, 1), (34, 1), (35, 1)] (bkC zeroId 0 (.slice none 0 0) 0 0) rfl rfl (by kernel_rfl) (by kernel_rfl) (.many rfl ((bs_length _).trans (sha_length _)) (by simp [bkC, bs_length, zeroId_length]) rfl (.one rfl rfl (by simp only [List.length_set, slot_fit (sha_length _)]; decide) rfl (.one rfl ho54 (by simp only [List.length_set, slot_fit (sha_length _)]; decide) rfl (.one rfl rfl (by simp only [List.length_set, slot_fit (sha_length _)]; decide) rfl (.one rfl rfl (by simp only [List.length_set, slot_fit (sha_length _)]; decide) rfl (.nil _)))))) (slot_build (sha_length _) _ _ _ _)) (AH_ready [10] (by kernel_rfl) (by decide) ?_))
                  refine AHs_cons rfl rfl rfl (by decide) (OpT_alloc (r := 701) (cs := (bkC zeroId 0 (.slice none 0 0) 0 0)) rfl (zero_run (by kernel_rfl : (Try.prog.info? 37).bind (·.zero) = some (.agg (bkC zeroId 0 (.slice none 0 0) 0 0).toArray))) rfl (fun g701 => ⟨⟨rfl, ⟨rfl, trivial⟩⟩, ?_⟩)) ?_
                  ·
                    refine (AH_ready [11] (by kernel_rfl) (by decide) ?_)
                    refine AHs_cons0 rfl rfl rfl (OpT_storeAll (r := 701) rfl Try.sizeOf37 rfl rfl rfl (bkC_length rfl) (bkC_length (sha_length _)) (bkC_one ho54) ?_) ?_
                    ·
                      refine ⟨⟨rfl, ⟨rfl, trivial⟩⟩, ?_⟩
                      refine (AH_done (by kernel_rfl) ?_)
                      refine X_ren 701 182 rfl ?_
                      refine X_ren 700 183 rfl ?_
                      exact X_cut (g701, v54) ho54 ⟨rfl, rfl, rfl, rfl, trivial⟩ ⟨rfl, rfl, rfl, rfl, rfl, trivial⟩
                    exact AHs_nil
                  exact AHs_nil
                refine AHs_cons rfl rfl rfl (by decide) (OpT_alloc (r := 601) (cs := (bkC zeroId 0 (.slice none 0 0) 0 0)) rfl (zero_run (by kernel_rfl : (Try.prog.info? 37).bind (·.zero) = some (.agg (bkC zeroId 0 (.slice none 0 0) 0 0).toArray))) rfl (fun g601 => ⟨⟨rfl, ⟨rfl, trivial⟩⟩, ?_⟩)) ?_
                ·
                  refine (AH_ready [6] (by kernel_rfl) (by decide) ?_)
                  refine AHs_cons rfl rfl rfl (by decide) (OpT_call 700 [0, 200, 201, 203, 300, 500, 601] [] rfl Try.call25 rfl rfl rfl (by decide) (by decide) (clone_spec v l (by omega) _ (rd_star 0 rfl hF)) (fun v54 Ps54 hR54 => ?_)) ?_
                  ·
                    obtain ⟨ho54, rfl⟩ := hR54
                    refine ⟨⟨rfl, ⟨rfl, trivial⟩⟩, ?_⟩
                    skip
                    refine (AH_take 9 rfl (by kernel_rfl) (by kernel_rfl) (by kernel_rfl) rfl rfl (by decide) (Pu_build (V := .agg (bkC (sha (pRoot l).pl) (pRoot l).ver v54 src exp).toArray) [(0, 32), (32, 1), (33, 1), (34, 1), (35, 1)] (bkC zeroId 0 (.slice none 0 0) 0 0) rfl rfl (by kernel_rfl) (by kernel_rfl) (.many rfl ((bs_length _).trans (sha_length _)) (by simp [bkC, bs_length, zeroId_length]) rfl (.one rfl rfl (by simp only [List.length_set, slot_fit (sha_length _)]; decide) rfl (.one rfl ho54 (by simp only [List.length_set, slot_fit (sha_length _)]; decide) rfl (.one rfl rfl (by simp only [List.length_set, slot_fit (sha_length _)]; decide) rfl (.one rfl rfl (by simp only [List.length_set, slot_fit (sha_length _)]; decide) rfl (.nil _)))))) (slot_build (sha_length _) _ _ _ _)) (AH_ready [11] (by kernel_rfl) (by decide) ?_))
                    refine AHs_cons0 rfl rfl rfl (OpT_storeAll (r := 601) rfl Try.sizeOf37 rfl rfl rfl (bkC_length rfl) (bkC_length (sha_length _)) (bkC_one ho54) ?_) ?_
                    ·
                      refine ⟨⟨rfl, ⟨rfl, trivial⟩⟩, ?_⟩
                      refine (AH_done (by kernel_rfl) ?_)
                      refine X_ren 601 182 rfl ?_
                      refine X_ren 700 183 rfl ?_
                      exact X_cut (g601, v54) ho54 ⟨rfl, rfl, rfl, rfl, trivial⟩ ⟨rfl, rfl, rfl, rfl, rfl, trivial⟩
                    exact AHs_nil
                  exact AHs_nil
                exact AHs_nil
              refine AHs_cons rfl rfl rfl (by decide) (OpT_alloc (r := 501) (cs := (bkC zeroId 0 (.slice none 0 0) 0 0)) rfl (zero_run (by kernel_rfl : (Try.prog.info? 37).bind (·.zero) = some (.agg (bkC zeroId 0 (.slice none 0 0) 0 0).toArray))) rfl (fun g501 => ⟨⟨rfl, ⟨rfl, trivial⟩⟩, ?_⟩)) ?_
              ·
                refine (AH_ready [2] (by kernel_rfl) (by decide) ?_)
                refine AHs_cons rfl rfl rfl (by decide) (OpT_call 600 [0, 200, 201, 203, 300, 500, 501] [] rfl Try.call24 rfl rfl rfl (by decide) (by decide) (sum_spec pv (pRoot l).pl (by have := pRoot_pl l; omega) _ (rd_star 1 rfl rowB_rd)) (fun v50 Ps50 hR50 => ?_)) ?_
                ·
                  obtain ⟨rfl, rfl⟩ := hR50
                  refine ⟨⟨rfl, ⟨rfl, trivial⟩⟩, ?_⟩
                  refine (AH_ready [6] (by kernel_rfl) (by decide) ?_)
                  refine AHs_cons rfl rfl rfl (by decide) (OpT_call 700 [0, 200, 201, 203, 300, 500, 501] [] rfl Try.call25 rfl rfl rfl (by decide) (by decide) (clone_spec v l (by omega) _ (rd_star 0 rfl hF)) (fun v54 Ps54 hR54 => ?_)) ?_
                  ·
                    obtain ⟨ho54, rfl⟩ := hR54
                    refine ⟨⟨rfl, ⟨rfl, trivial⟩⟩, ?_⟩
                    skip
                    refine (AH_take 9 rfl (by kernel_rfl) (by kernel_rfl) (by kernel_rfl) rfl rfl (by decide) (Pu_build (V := .agg (bkC (sha (pRoot l).pl) (pRoot l).ver v54 src exp).toArray) [(0, 32), (32, 1), (33, 1), (34, 1), (35, 1)] (bkC zeroId 0 (.slice none 0 0) 0 0) rfl rfl (by kernel_rfl) (by kernel_rfl) (.many rfl ((bs_length _).trans (sha_length _)) (by simp [bkC, bs_length, zeroId_length]) rfl (.one rfl rfl (by simp only [List.length_set, slot_fit (sha_length _)]; decide) rfl (.one rfl ho54 (by simp only [List.length_set, slot_fit (sha_length _)]; decide) rfl (.one rfl rfl (by simp only [List.length_set, slot_fit (sha_length _)]; decide) rfl (.one rfl rfl (by simp only [List.length_set, slot_fit (sha_length _)]; decide) rfl (.nil _)))))) (slot_build (sha_length _) _ _ _ _)) (AH_ready [11] (by kernel_rfl) (by decide) ?_))
                    refine AHs_cons0 rfl rfl rfl (OpT_storeAll (r := 501) rfl Try.sizeOf37 rfl rfl rfl (bkC_length rfl) (bkC_length (sha_length _)) (bkC_one ho54) ?_) ?_
                    ·
                      refine ⟨⟨rfl, ⟨rfl, trivial⟩⟩, ?_⟩
                      refine (AH_done (by kernel_rfl) ?_)
                      refine X_ren 501 182 rfl ?_
                      refine X_ren 700 183 rfl ?_
                      exact X_cut (g501, v54) ho54 ⟨rfl, rfl, rfl, rfl, trivial⟩ ⟨rfl, rfl, rfl, rfl, rfl, trivial⟩
                    exact AHs_nil
                  exact AHs_nil
                exact AHs_nil
              exact AHs_nil
            ·
              refine W_seq ?_
              refine W.pre (K' := [(0, _), (3, _), (11, _), (14, _)]) (L' := [(0, _), (182, _), (183, _), (203, _), (500, _)]) ?_ ⟨rfl, ⟨rfl, ⟨rfl, ⟨rfl, trivial⟩⟩⟩⟩ ⟨rfl, ⟨rfl, ⟨rfl, ⟨rfl, ⟨rfl, trivial⟩⟩⟩⟩⟩
              refine W_openS 500 500 rfl (fun gm es hes => ?_)
              obtain rfl := es_none hes
              refine W_draw (N := 13) (by kernel_rfl) rfl [(0, _), (182, _), (203, _), (500, _)] ⟨rfl, ⟨rfl, ⟨rfl, ⟨rfl, trivial⟩⟩⟩⟩ ?_
              refine (AH_take 0 rfl (by kernel_rfl) (by kernel_rfl) (by kernel_rfl) rfl rfl (by decide) (Pu_move rfl rfl) (AH_take 1 rfl (by kernel_rfl) (by kernel_rfl) (by kernel_rfl) rfl rfl (by decide) (Pu_nilCheck rfl rfl) (AH_take 2 rfl (by kernel_rfl) (by kernel_rfl) (by kernel_rfl) rfl rfl (by decide) (Pu_fieldAddrB (off := 1) rfl rfl (by kernel_rfl)) (AH_take 3 rfl (by kernel_rfl) (by kernel_rfl) (by kernel_rfl) rfl rfl (by decide) (Pu_loadB (r := 500) rfl Try.isAgg49 rfl rfl rfl) (AH_take 4 rfl (by kernel_rfl) (by kernel_rfl) (by kernel_rfl) rfl rfl (by decide) (Pu_fieldAddrB (off := 0) rfl rfl (by kernel_rfl)) (AH_take 5 rfl (by kernel_rfl) (by kernel_rfl) (by kernel_rfl) rfl rfl (by decide) (Pu_loadBN (r := 182) rfl Try.isAgg29 Try.sizeOf29 rfl rfl ((bs_length _).trans (sha_length _)) (bk_key (sha_length _))) (AH_ready [6, 10] (by kernel_rfl) (by decide) ?_)))))))
              refine AHs_cons rfl rfl rfl (by decide) (OpT_run (Pu_look (r := 501) rfl rfl rfl (sha_length _) rfl) ⟨⟨rfl, ⟨rfl, ⟨rfl, ⟨rfl, trivial⟩⟩⟩⟩, ?_⟩) ?_
              ·
                refine (AH_take 7 rfl (by kernel_rfl) (by kernel_rfl) (by kernel_rfl) rfl rfl (by decide) (Pu_move rfl rfl) (AH_take 8 rfl (by kernel_rfl) (by kernel_rfl) (by kernel_rfl) rfl rfl (by decide) (Pu_extract rfl rfl rfl) (AH_take 9 rfl (by kernel_rfl) (by kernel_rfl) (by kernel_rfl) rfl rfl (by decide) (Pu_extract rfl rfl rfl) (AH_ready [10] (by kernel_rfl) (by decide) ?_))))
                refine AHs_cons rfl rfl rfl (by decide) (OpT_alloc (r := 551) (cs := (bkC zeroId 0 (.slice none 0 0) 0 0)) rfl (zero_run (by kernel_rfl : (Try.prog.info? 37).bind (·.zero) = some (.agg (bkC zeroId 0 (.slice none 0 0) 0 0).toArray))) rfl (fun g551 => ⟨⟨rfl, ⟨rfl, ⟨rfl, ⟨rfl, trivial⟩⟩⟩⟩, ?_⟩)) ?_
                ·
                  refine (AH_ready [11] (by kernel_rfl) (by decide) ?_)
                  refine AHs_cons0 rfl rfl rfl (OpT_storeAll (r := 551) rfl Try.sizeOf37 rfl rfl rfl (bkC_length rfl) (bvC_length _) (bvC_one _) ?_) ?_
                  ·
                    refine ⟨⟨rfl, ⟨rfl, ⟨rfl, ⟨rfl, trivial⟩⟩⟩⟩, ?_⟩
                    refine (AH_take 12 rfl (by kernel_rfl) (by kernel_rfl) (by kernel_rfl) rfl rfl (by decide) (Pu_assign rfl rfl) (AH_done (by kernel_rfl) (X_then ?_)))
                    refine W_seq ?_
                    refine W_block ?_
                    refine W_seq ?_
                    refine W.pre (K' := [(0, _), (3, _), (11, _), (14, _), (15, _), (16, _)]) (L' := [(0, _), (182, _), (183, _), (203, _), (500, _), (501, _), (502, _), (551, _)]) ?_ ⟨rfl, ⟨rfl, ⟨rfl, ⟨rfl, ⟨rfl, ⟨rfl, trivial⟩⟩⟩⟩⟩⟩ ⟨rfl, ⟨rfl, ⟨rfl, ⟨rfl, ⟨rfl, ⟨rfl, ⟨rfl, ⟨rfl, trivial⟩⟩⟩⟩⟩⟩⟩⟩
                    refine W_regL (WL_pure rfl rfl (by decide) (Pu_move rfl rfl) (WL_pure rfl rfl (by decide) (Pu_move rfl rfl) (WL_gF rfl rfl rfl rfl rfl (by decide) (WL_gF rfl rfl rfl rfl rfl (by decide) (WL_gF rfl rfl rfl rfl rfl (by decide) (WL_gF rfl rfl rfl rfl rfl (by decide) (WL_gF rfl rfl rfl rfl rfl (by decide) (WL_pure rfl rfl (by decide) (Pu_pickF rfl rfl rfl rfl) (WL_pure rfl rfl (by decide) (Pu_assign rfl rfl) (WL_nil (X_then ?_)))))))))))
                    refine W_false rfl (rfl) ?_
                    refine W_seq ?_
                    refine W.pre (K' := [(0, _), (3, _), (11, _), (14, _), (15, _), (16, _), (68, _)]) (L' := [(0, _), (182, _), (183, _), (203, _), (500, _), (501, _), (502, _), (551, _)]) ?_ ⟨rfl, ⟨rfl, ⟨rfl, ⟨rfl, ⟨rfl, ⟨rfl, ⟨rfl, trivial⟩⟩⟩⟩⟩⟩⟩ ⟨rfl, ⟨rfl, ⟨rfl, ⟨rfl, ⟨rfl, ⟨rfl, ⟨rfl, ⟨rfl, trivial⟩⟩⟩⟩⟩⟩⟩⟩
                    refine W_regL (WL_pure rfl rfl (by decide) (Pu_move rfl rfl) (WL_pure rfl rfl (by decide) (Pu_move rfl rfl) (WL_gF rfl rfl rfl rfl rfl (by decide) (WL_gF rfl rfl rfl rfl rfl (by decide) (WL_gF rfl rfl rfl rfl rfl (by decide) (WL_gF rfl rfl rfl rfl rfl (by decide) (WL_gF rfl rfl rfl rfl rfl (by decide) (WL_pure rfl rfl (by decide) (Pu_pickF rfl rfl rfl rfl) (WL_pure rfl rfl (by decide) (Pu_assign rfl rfl) (WL_nil (X_then ?_)))))))))))
                    refine W_false rfl (rfl) ?_
                    refine W_seq ?_
                    refine W.pre (K' := [(0, _), (3, _), (11, _), (14, _), (15, _), (16, _), (68, _), (77, _)]) (L' := [(0, _), (182, _), (183, _), (203, _), (500, _), (501, _), (502, _), (551, _)]) ?_ ⟨rfl, ⟨rfl, ⟨rfl, ⟨rfl, ⟨rfl, ⟨rfl, ⟨rfl, ⟨rfl, trivial⟩⟩⟩⟩⟩⟩⟩⟩ ⟨rfl, ⟨rfl, ⟨rfl, ⟨rfl, ⟨rfl, ⟨rfl, ⟨rfl, ⟨rfl, trivial⟩⟩⟩⟩⟩⟩⟩⟩
                    refine W_draw (N := 15) (by kernel_rfl) rfl [(0, _), (182, _), (203, _), (500, _), (551, _), (501, _)] ⟨rfl, ⟨rfl, ⟨rfl, ⟨rfl, ⟨rfl, ⟨rfl, trivial⟩⟩⟩⟩⟩⟩ ?_
                    refine (AH_take 0 rfl (by kernel_rfl) (by kernel_rfl) (by kernel_rfl) rfl rfl (by decide) (Pu_move rfl rfl) (AH_take 1 rfl (by kernel_rfl) (by kernel_rfl) (by kernel_rfl) rfl rfl (by decide) (Pu_un rfl rfl (run_not _)) (AH_take 2 rfl (by kernel_rfl) (by kernel_rfl) (by kernel_rfl) rfl rfl (by decide) (Pu_move rfl rfl) (AH_takeT 3 rfl (by kernel_rfl) (by kernel_rfl) (by kernel_rfl) rfl rfl rfl rfl rfl (by decide) (Pu_move rfl rfl) (AH_takeT 4 rfl (by kernel_rfl) (by kernel_rfl) (by kernel_rfl) rfl rfl rfl rfl rfl (by decide) (Pu_nilCheck rfl rfl) (AH_takeT 5 rfl (by kernel_rfl) (by kernel_rfl) (by kernel_rfl) rfl rfl rfl rfl rfl (by decide) (Pu_fieldAddrB (off := 1) rfl rfl (by kernel_rfl)) (AH_takeT 6 rfl (by kernel_rfl) (by kernel_rfl) (by kernel_rfl) rfl rfl rfl rfl rfl (by decide) (Pu_loadB (r := 500) rfl Try.isAgg49 rfl rfl rfl) (AH_takeT 7 rfl (by kernel_rfl) (by kernel_rfl) (by kernel_rfl) rfl rfl rfl rfl rfl (by decide) (Pu_lenQ (r := 501) rfl Try.underlying49 rfl rfl) (AH_takeT 8 rfl (by kernel_rfl) (by kernel_rfl) (by kernel_rfl) rfl rfl rfl rfl rfl (by decide) (Pu_move rfl rfl) (AH_takeT 9 rfl (by kernel_rfl) (by kernel_rfl) (by kernel_rfl) rfl rfl rfl rfl rfl (by decide) (Pu_nilCheck rfl rfl) (AH_takeT 10 rfl (by kernel_rfl) (by kernel_rfl) (by kernel_rfl) rfl rfl rfl rfl rfl (by decide) (Pu_fieldAddrB (off := 0) rfl rfl (by kernel_rfl)) (AH_takeT 11 rfl (by kernel_rfl) (by kernel_rfl) (by kernel_rfl) rfl rfl rfl rfl rfl (by decide) (Pu_loadB (r := 500) rfl Try.isAgg3 rfl rfl rfl) (AH_takeT 12 rfl (by kernel_rfl) (by kernel_rfl) (by kernel_rfl) rfl rfl rfl rfl rfl (by decide) (Pu_bin rfl rfl rfl (run_geq _ _ _ _ _ _)) (AH_take 13 rfl (by kernel_rfl) (by kernel_rfl) (by kernel_rfl) rfl rfl (by decide) (Pu_pickT rfl rfl rfl rfl) (AH_take 14 rfl (by kernel_rfl) (by kernel_rfl) (by kernel_rfl) rfl rfl (by decide) (Pu_assign rfl rfl) (AH_done (by kernel_rfl) (X_then ?_)))))))))))))))))
                    refine W_false rfl (decide_eq_false (by show ¬ (most ≤ ((0 : Nat) : Int)); omega)) ?_
                    refine W_skip (X_block (X_then ?_))
                    refine W_seq ?_
                    refine W.pre (K' := [(0, _), (3, _), (11, _), (14, _), (15, _), (16, _), (68, _), (77, _), (92, _)]) (L' := [(0, _), (182, _), (183, _), (203, _), (500, _), (501, _), (502, _), (551, _)]) ?_ ⟨rfl, ⟨rfl, ⟨rfl, ⟨rfl, ⟨rfl, ⟨rfl, ⟨rfl, ⟨rfl, ⟨rfl, trivial⟩⟩⟩⟩⟩⟩⟩⟩⟩ ⟨rfl, ⟨rfl, ⟨rfl, ⟨rfl, ⟨rfl, ⟨rfl, ⟨rfl, ⟨rfl, trivial⟩⟩⟩⟩⟩⟩⟩⟩
                    refine W_draw (N := 8) (by kernel_rfl) rfl [(0, _), (182, _), (203, _), (500, _), (551, _)] ⟨rfl, ⟨rfl, ⟨rfl, ⟨rfl, ⟨rfl, trivial⟩⟩⟩⟩⟩ ?_
                    refine (AH_take 0 rfl (by kernel_rfl) (by kernel_rfl) (by kernel_rfl) rfl rfl (by decide) (Pu_move rfl rfl) (AH_take 1 rfl (by kernel_rfl) (by kernel_rfl) (by kernel_rfl) rfl rfl (by decide) (Pu_nilCheck rfl rfl) (AH_take 2 rfl (by kernel_rfl) (by kernel_rfl) (by kernel_rfl) rfl rfl (by decide) (Pu_fieldAddrB (off := 1) rfl rfl (by kernel_rfl)) (AH_take 3 rfl (by kernel_rfl) (by kernel_rfl) (by kernel_rfl) rfl rfl (by decide) (Pu_loadB (r := 500) rfl Try.isAgg49 rfl rfl rfl) (AH_take 4 rfl (by kernel_rfl) (by kernel_rfl) (by kernel_rfl) rfl rfl (by decide) (Pu_fieldAddrB (off := 0) rfl rfl (by kernel_rfl)) (AH_take 5 rfl (by kernel_rfl) (by kernel_rfl) (by kernel_rfl) rfl rfl (by decide) (Pu_loadBN (r := 182) rfl Try.isAgg29 Try.sizeOf29 rfl rfl ((bs_length _).trans (sha_length _)) (bk_key (sha_length _))) (AH_take 6 rfl (by kernel_rfl) (by kernel_rfl) (by kernel_rfl) rfl rfl (by decide) (Pu_loadBN (r := 182) rfl Try.isAgg37 Try.sizeOf37 rfl rfl (bkC_length (sha_length _)) (load_all (bkC_length (sha_length _)))) (AH_ready [7] (by kernel_rfl) (by decide) ?_))))))))
                    refine AHs_cons0 rfl rfl rfl (OpT_mapPutQ (r := 501) (k := (sha (pRoot l).pl)) (es := entsOf []) (g := gm) keyB rfl Try.underlying49 rfl rfl (sha_length _) rfl rfl ?_) ?_
                    ·
                      refine ⟨⟨rfl, ⟨rfl, ⟨rfl, ⟨rfl, ⟨rfl, trivial⟩⟩⟩⟩⟩, ?_⟩
                      refine (AH_done (by kernel_rfl) (X_then ?_))
                      refine W_seq ?_
                      refine W.pre (K' := [(0, _), (3, _), (11, _), (14, _), (15, _), (16, _), (68, _), (77, _), (92, _)]) (L' := [(0, _), (182, _), (183, _), (203, _), (500, _), (501, _), (502, _), (551, _)]) ?_ ⟨rfl, ⟨rfl, ⟨rfl, ⟨rfl, ⟨rfl, ⟨rfl, ⟨rfl, ⟨rfl, ⟨rfl, trivial⟩⟩⟩⟩⟩⟩⟩⟩⟩ ⟨rfl, ⟨rfl, ⟨rfl, ⟨rfl, ⟨rfl, ⟨rfl, ⟨rfl, ⟨rfl, trivial⟩⟩⟩⟩⟩⟩⟩⟩
                      refine W_regL (WL_pure rfl rfl (by decide) (Pu_assign rfl rfl) (WL_nil (X_then ?_)))
                      refine W_ret ?_
                      have hset := setO_none hc23 hok hgood
                      refine X_turn (P' := mapB gm (entsOf [((⟨((sha (pRoot l).pl), (pRoot l).ver, z.2, src, exp), sha_length _, hzo⟩, l) : EB)]) none) 501 rfl (fun h hp => hp) ?_
                      refine X_turn (P' := datP [((⟨((sha (pRoot l).pl), (pRoot l).ver, z.2, src, exp), sha_length _, hzo⟩, l) : EB)]) 183 rfl (fun h hp q hq => by rw [List.mem_singleton.1 hq]; exact rowB_rd _ hp) ?_
                      refine X_join [500, 501, 183] 1 (slotP g most (some ⟨(sha (pRoot l).pl), (pRoot l).ver, l, src, exp⟩)) rfl (by decide) (fun h hs => closeS (es := [((⟨((sha (pRoot l).pl), (pRoot l).ver, z.2, src, exp), sha_length _, hzo⟩, l) : EB)]) rfl hs) ?_
                      exact X_ret [1] (Ps := [_]) (res1 Try.results10 rfl) rfl (by decide) ⟨by rw [hset]; try rfl, by rw [hset]; try rfl⟩
                    exact AHs_nil
                  exact AHs_nil
                exact AHs_nil
              refine AHs_cons rfl rfl rfl (by decide) (OpT_alloc (r := 551) (cs := (bkC zeroId 0 (.slice none 0 0) 0 0)) rfl (zero_run (by kernel_rfl : (Try.prog.info? 37).bind (·.zero) = some (.agg (bkC zeroId 0 (.slice none 0 0) 0 0).toArray))) rfl (fun g551 => ⟨⟨rfl, ⟨rfl, ⟨rfl, ⟨rfl, trivial⟩⟩⟩⟩, ?_⟩)) ?_
              ·
                refine (AH_ready [6] (by kernel_rfl) (by decide) ?_)
                refine AHs_cons rfl rfl rfl (by decide) (OpT_run (Pu_look (r := 501) rfl rfl rfl (sha_length _) rfl) ⟨⟨rfl, ⟨rfl, ⟨rfl, ⟨rfl, trivial⟩⟩⟩⟩, ?_⟩) ?_
                ·
                  refine (AH_take 7 rfl (by kernel_rfl) (by kernel_rfl) (by kernel_rfl) rfl rfl (by decide) (Pu_move rfl rfl) (AH_take 8 rfl (by kernel_rfl) (by kernel_rfl) (by kernel_rfl) rfl rfl (by decide) (Pu_extract rfl rfl rfl) (AH_take 9 rfl (by kernel_rfl) (by kernel_rfl) (by kernel_rfl) rfl rfl (by decide) (Pu_extract rfl rfl rfl) (AH_ready [11] (by kernel_rfl) (by decide) ?_))))
                  refine AHs_cons0 rfl rfl rfl (OpT_storeAll (r := 551) rfl Try.sizeOf37 rfl rfl rfl (bkC_length rfl) (bvC_length _) (bvC_one _) ?_) ?_
                  ·
                    refine ⟨⟨rfl, ⟨rfl, ⟨rfl, ⟨rfl, trivial⟩⟩⟩⟩, ?_⟩
                    refine (AH_take 12 rfl (by kernel_rfl) (by kernel_rfl) (by kernel_rfl) rfl rfl (by decide) (Pu_assign rfl rfl) (AH_done (by kernel_rfl) (X_then ?_)))
                    refine W_seq ?_
                    refine W_block ?_
                    refine W_seq ?_
                    refine W.pre (K' := [(0, _), (3, _), (11, _), (14, _), (15, _), (16, _)]) (L' := [(0, _), (182, _), (183, _), (203, _), (500, _), (501, _), (502, _), (551, _)]) ?_ ⟨rfl, ⟨rfl, ⟨rfl, ⟨rfl, ⟨rfl, ⟨rfl, trivial⟩⟩⟩⟩⟩⟩ ⟨rfl, ⟨rfl, ⟨rfl, ⟨rfl, ⟨rfl, ⟨rfl, ⟨rfl, ⟨rfl, trivial⟩⟩⟩⟩⟩⟩⟩⟩
                    refine W_regL (WL_pure rfl rfl (by decide) (Pu_move rfl rfl) (WL_pure rfl rfl (by decide) (Pu_move rfl rfl) (WL_gF rfl rfl rfl rfl rfl (by decide) (WL_gF rfl rfl rfl rfl rfl (by decide) (WL_gF rfl rfl rfl rfl rfl (by decide) (WL_gF rfl rfl rfl rfl rfl (by decide) (WL_gF rfl rfl rfl rfl rfl (by decide) (WL_pure rfl rfl (by decide) (Pu_pickF rfl rfl rfl rfl) (WL_pure rfl rfl (by decide) (Pu_assign rfl rfl) (WL_nil (X_then ?_)))))))))))
                    refine W_false rfl (rfl) ?_
                    refine W_seq ?_
                    refine W.pre (K' := [(0, _), (3, _), (11, _), (14, _), (15, _), (16, _), (68, _)]) (L' := [(0, _), (182, _), (183, _), (203, _), (500, _), (501, _), (502, _), (551, _)]) ?_ ⟨rfl, ⟨rfl, ⟨rfl, ⟨rfl, ⟨rfl, ⟨rfl, ⟨rfl, trivial⟩⟩⟩⟩⟩⟩⟩ ⟨rfl, ⟨rfl, ⟨rfl, ⟨rfl, ⟨rfl, ⟨rfl, ⟨rfl, ⟨rfl, trivial⟩⟩⟩⟩⟩⟩⟩⟩
                    refine W_regL (WL_pure rfl rfl (by decide) (Pu_move rfl rfl) (WL_pure rfl rfl (by decide) (Pu_move rfl rfl) (WL_gF rfl rfl rfl rfl rfl (by decide) (WL_gF rfl rfl rfl rfl rfl (by decide) (WL_gF rfl rfl rfl rfl rfl (by decide) (WL_gF rfl rfl rfl rfl rfl (by decide) (WL_gF rfl rfl rfl rfl rfl (by decide) (WL_pure rfl rfl (by decide) (Pu_pickF rfl rfl rfl rfl) (WL_pure rfl rfl (by decide) (Pu_assign rfl rfl) (WL_nil (X_then ?_)))))))))))
                    refine W_false rfl (rfl) ?_
                    refine W_seq ?_
                    refine W.pre (K' := [(0, _), (3, _), (11, _), (14, _), (15, _), (16, _), (68, _), (77, _)]) (L' := [(0, _), (182, _), (183, _), (203, _), (500, _), (501, _), (502, _), (551, _)]) ?_ ⟨rfl, ⟨rfl, ⟨rfl, ⟨rfl, ⟨rfl, ⟨rfl, ⟨rfl, ⟨rfl, trivial⟩⟩⟩⟩⟩⟩⟩⟩ ⟨rfl, ⟨rfl, ⟨rfl, ⟨rfl, ⟨rfl, ⟨rfl, ⟨rfl, ⟨rfl, trivial⟩⟩⟩⟩⟩⟩⟩⟩
                    refine W_draw (N := 15) (by kernel_rfl) rfl [(0, _), (182, _), (203, _), (500, _), (551, _), (501, _)] ⟨rfl, ⟨rfl, ⟨rfl, ⟨rfl, ⟨rfl, ⟨rfl, trivial⟩⟩⟩⟩⟩⟩ ?_
                    refine (AH_take 0 rfl (by kernel_rfl) (by kernel_rfl) (by kernel_rfl) rfl rfl (by decide) (Pu_move rfl rfl) (AH_take 1 rfl (by kernel_rfl) (by kernel_rfl) (by kernel_rfl) rfl rfl (by decide) (Pu_un rfl rfl (run_not _)) (AH_take 2 rfl (by kernel_rfl) (by kernel_rfl) (by kernel_rfl) rfl rfl (by decide) (Pu_move rfl rfl) (AH_takeT 3 rfl (by kernel_rfl) (by kernel_rfl) (by kernel_rfl) rfl rfl rfl rfl rfl (by decide) (Pu_move rfl rfl) (AH_takeT 4 rfl (by kernel_rfl) (by kernel_rfl) (by kernel_rfl) rfl rfl rfl rfl rfl (by decide) (Pu_nilCheck rfl rfl) (AH_takeT 5 rfl (by kernel_rfl) (by kernel_rfl) (by kernel_rfl) rfl rfl rfl rfl rfl (by decide) (Pu_fieldAddrB (off := 1) rfl rfl (by kernel_rfl)) (AH_takeT 6 rfl (by kernel_rfl) (by kernel_rfl) (by kernel_rfl) rfl rfl rfl rfl rfl (by decide) (Pu_loadB (r := 500) rfl Try.isAgg49 rfl rfl rfl) (AH_takeT 7 rfl (by kernel_rfl) (by kernel_rfl) (by kernel_rfl) rfl rfl rfl rfl rfl (by decide) (Pu_lenQ (r := 501) rfl Try.underlying49 rfl rfl) (AH_takeT 8 rfl (by kernel_rfl) (by kernel_rfl) (by kernel_rfl) rfl rfl rfl rfl rfl (by decide) (Pu_move rfl rfl) (AH_takeT 9 rfl (by kernel_rfl) (by kernel_rfl) (by kernel_rfl) rfl rfl rfl rfl rfl (by decide) (Pu_nilCheck rfl rfl) (AH_takeT 10 rfl (by kernel_rfl) (by kernel_rfl) (by kernel_rfl) rfl rfl rfl rfl rfl (by decide) (Pu_fieldAddrB (off := 0) rfl rfl (by kernel_rfl)) (AH_takeT 11 rfl (by kernel_rfl) (by kernel_rfl) (by kernel_rfl) rfl rfl rfl rfl rfl (by decide) (Pu_loadB (r := 500) rfl Try.isAgg3 rfl rfl rfl) (AH_takeT 12 rfl (by kernel_rfl) (by kernel_rfl) (by kernel_rfl) rfl rfl rfl rfl rfl (by decide) (Pu_bin rfl rfl rfl (run_geq _ _ _ _ _ _)) (AH_take 13 rfl (by kernel_rfl) (by kernel_rfl) (by kernel_rfl) rfl rfl (by decide) (Pu_pickT rfl rfl rfl rfl) (AH_take 14 rfl (by kernel_rfl) (by kernel_rfl) (by kernel_rfl) rfl rfl (by decide) (Pu_assign rfl rfl) (AH_done (by kernel_rfl) (X_then ?_)))))))))))))))))
                    refine W_false rfl (decide_eq_false (by show ¬ (most ≤ ((0 : Nat) : Int)); omega)) ?_
                    refine W_skip (X_block (X_then ?_))
                    refine W_seq ?_
                    refine W.pre (K' := [(0, _), (3, _), (11, _), (14, _), (15, _), (16, _), (68, _), (77, _), (92, _)]) (L' := [(0, _), (182, _), (183, _), (203, _), (500, _), (501, _), (502, _), (551, _)]) ?_ ⟨rfl, ⟨rfl, ⟨rfl, ⟨rfl, ⟨rfl, ⟨rfl, ⟨rfl, ⟨rfl, ⟨rfl, trivial⟩⟩⟩⟩⟩⟩⟩⟩⟩ ⟨rfl, ⟨rfl, ⟨rfl, ⟨rfl, ⟨rfl, ⟨rfl, ⟨rfl, ⟨rfl, trivial⟩⟩⟩⟩⟩⟩⟩⟩
                    refine W_draw (N := 8) (by kernel_rfl) rfl [(0, _), (182, _), (203, _), (500, _), (551, _)] ⟨rfl, ⟨rfl, ⟨rfl, ⟨rfl, ⟨rfl, trivial⟩⟩⟩⟩⟩ ?_
                    refine (AH_take 0 rfl (by kernel_rfl) (by kernel_rfl) (by kernel_rfl) rfl rfl (by decide) (Pu_move rfl rfl) (AH_take 1 rfl (by kernel_rfl) (by kernel_rfl) (by kernel_rfl) rfl rfl (by decide) (Pu_nilCheck rfl rfl) (AH_take 2 rfl (by kernel_rfl) (by kernel_rfl) (by kernel_rfl) rfl rfl (by decide) (Pu_fieldAddrB (off := 1) rfl rfl (by kernel_rfl)) (AH_take 3 rfl (by kernel_rfl) (by kernel_rfl) (by kernel_rfl) rfl rfl (by decide) (Pu_loadB (r := 500) rfl Try.isAgg49 rfl rfl rfl) (AH_take 4 rfl (by kernel_rfl) (by kernel_rfl) (by kernel_rfl) rfl rfl (by decide) (Pu_fieldAddrB (off := 0) rfl rfl (by kernel_rfl)) (AH_take 5 rfl (by kernel_rfl) (by kernel_rfl) (by kernel_rfl) rfl rfl (by decide) (Pu_loadBN (r := 182) rfl Try.isAgg29 Try.sizeOf29 rfl rfl ((bs_length _).trans (sha_length _)) (bk_key (sha_length _))) (AH_take 6 rfl (by kernel_rfl) (by kernel_rfl) (by kernel_rfl) rfl rfl (by decide) (Pu_loadBN (r := 182) rfl Try.isAgg37 Try.sizeOf37 rfl rfl (bkC_length (sha_length _)) (load_all (bkC_length (sha_length _)))) (AH_ready [7] (by kernel_rfl) (by decide) ?_))))))))
                    refine AHs_cons0 rfl rfl rfl (OpT_mapPutQ (r := 501) (k := (sha (pRoot l).pl)) (es := entsOf []) (g := gm) keyB rfl Try.underlying49 rfl rfl (sha_length _) rfl rfl ?_) ?_
                    ·
                      refine ⟨⟨rfl, ⟨rfl, ⟨rfl, ⟨rfl, ⟨rfl, trivial⟩⟩⟩⟩⟩, ?_⟩
                      refine (AH_done (by kernel_rfl) (X_then ?_))
                      refine W_seq ?_
                      refine W.pre (K' := [(0, _), (3, _), (11, _), (14, _), (15, _), (16, _), (68, _), (77, _), (92, _)]) (L' := [(0, _), (182, _), (183, _), (203, _), (500, _), (501, _), (502, _), (551, _)]) ?_ ⟨rfl, ⟨rfl, ⟨rfl, ⟨rfl, ⟨rfl, ⟨rfl, ⟨rfl, ⟨rfl, ⟨rfl, trivial⟩⟩⟩⟩⟩⟩⟩⟩⟩ ⟨rfl, ⟨rfl, ⟨rfl, ⟨rfl, ⟨rfl, ⟨rfl, ⟨rfl, ⟨rfl, trivial⟩⟩⟩⟩⟩⟩⟩⟩
                      refine W_regL (WL_pure rfl rfl (by decide) (Pu_assign rfl rfl) (WL_nil (X_then ?_)))
                      refine W_ret ?_
                      have hset := setO_none hc23 hok hgood
                      refine X_turn (P' := mapB gm (entsOf [((⟨((sha (pRoot l).pl), (pRoot l).ver, z.2, src, exp), sha_length _, hzo⟩, l) : EB)]) none) 501 rfl (fun h hp => hp) ?_
                      refine X_turn (P' := datP [((⟨((sha (pRoot l).pl), (pRoot l).ver, z.2, src, exp), sha_length _, hzo⟩, l) : EB)]) 183 rfl (fun h hp q hq => by rw [List.mem_singleton.1 hq]; exact rowB_rd _ hp) ?_
                      refine X_join [500, 501, 183] 1 (slotP g most (some ⟨(sha (pRoot l).pl), (pRoot l).ver, l, src, exp⟩)) rfl (by decide) (fun h hs => closeS (es := [((⟨((sha (pRoot l).pl), (pRoot l).ver, z.2, src, exp), sha_length _, hzo⟩, l) : EB)]) rfl hs) ?_
                      exact X_ret [1] (Ps := [_]) (res1 Try.results10 rfl) rfl (by decide) ⟨by rw [hset]; try rfl, by rw [hset]; try rfl⟩
                    exact AHs_nil
                  exact AHs_nil
                exact AHs_nil
              exact AHs_nil
        exact AHs_nil
      exact AHs_nil
theorem setS_some (g : Nat) (most : Int) (hm : 1 ≤ most) (v : Value) (l : List UInt8) (hl : l.length ≤ 1000000) (src exp now : Int) (p : S1) (hkey : p.key = sha (pRoot l).pl) (hlive : now < p.exp) (F : HP) (hF : ∀ h, F h → rdB v l h) : CallsS Try.prog 10 #[.pointer (some ⟨g, 0, none⟩), v, .int .i64 src, .int .i64 exp, .int .i64 now] F [slotP g most (some p)] (fun r Ps => r = .int .i64 (setO (some p) l src exp now).1 ∧ Ps = [slotP g most (setO (some p) l src exp now).2]) := by
  refine callsS_enter Try.func10 rfl Try.ntmps10 (by simp) (fun E => ?_)
  refine W_seq ?_
  refine W.pre (K' := [(0, _), (1, _), (2, _), (3, _), (4, _)]) (L' := [(0, _), (1, _)]) ?_ ⟨rfl, ⟨rfl, ⟨rfl, ⟨rfl, ⟨rfl, trivial⟩⟩⟩⟩⟩ ⟨rfl, ⟨rfl, trivial⟩⟩
  refine W_regL (WL_pure rfl rfl (by decide) (Pu_assign rfl rfl) (WL_nil (X_then ?_)))
  refine W_seq ?_
  refine W_seq ?_
  refine W.pre (K' := [(0, _), (1, _), (2, _), (3, _), (4, _), (10, _)]) (L' := [(0, _), (1, _)]) ?_ ⟨rfl, ⟨rfl, ⟨rfl, ⟨rfl, ⟨rfl, ⟨rfl, trivial⟩⟩⟩⟩⟩⟩ ⟨rfl, ⟨rfl, trivial⟩⟩
  refine W_regL (WL_pure rfl rfl (by decide) (Pu_move rfl rfl) (WL_pure rfl rfl (by decide) (Pu_bin rfl rfl rfl (run_lss _ _ _ _ _ _)) (WL_pure rfl rfl (by decide) (Pu_move rfl rfl) (WL_guardP rfl rfl rfl rfl (by decide) (fun hb => (Pu_move rfl rfl)) (WL_guardP rfl rfl rfl rfl (by decide) (fun hb => (Pu_move rfl rfl)) (WL_guardP rfl rfl rfl rfl (by decide) (fun hb => (Pu_bin rfl (ev_gv rfl hb) (ev_gv rfl hb) (run_leq _ _ _ _ _ _))) (WL_pure rfl rfl (by decide) (Pu_or rfl rfl rfl) (WL_nil (X_then ?_)))))))))
  refine W_cond rfl (fun hc23 => ?_) (fun hc23 => ?_)
  ·
    have hset := setO_arg (o := (some p)) (l := l) hc23
    refine W_seq ?_
    refine W.pre (K' := [(0, _), (1, _), (2, _), (3, _), (4, _), (10, _), (23, _)]) (L' := [(0, _), (1, _)]) ?_ ⟨rfl, ⟨rfl, ⟨rfl, ⟨rfl, ⟨rfl, ⟨rfl, ⟨rfl, trivial⟩⟩⟩⟩⟩⟩⟩ ⟨rfl, ⟨rfl, trivial⟩⟩
    refine W_regL (WL_pure rfl rfl (by decide) (Pu_assign rfl rfl) (WL_nil (X_then ?_)))
    refine W_ret (X_then_ret ?_)
    exact X_ret [1] (Ps := [_]) (res1 Try.results10 rfl) rfl (by decide) ⟨by rw [hset]; try rfl, by rw [hset]; try rfl⟩
  ·
    refine W_skip (X_then ?_)
    refine W_seq ?_
    refine W.pre (K' := [(0, _), (1, _), (2, _), (3, _), (4, _), (10, _), (23, _)]) (L' := [(0, _), (1, _)]) ?_ ⟨rfl, ⟨rfl, ⟨rfl, ⟨rfl, ⟨rfl, ⟨rfl, ⟨rfl, trivial⟩⟩⟩⟩⟩⟩⟩ ⟨rfl, ⟨rfl, trivial⟩⟩
    refine W_regL (WL_pure rfl rfl (by decide) (Pu_move rfl rfl) (WL_cons rfl rfl (by decide) (OpT_call 200 [0, 1] [] rfl Try.call20 rfl rfl rfl (by decide) (by decide) (parseRoot_spec v l (by omega) _ (rd_star 0 rfl hF)) (fun v26 Ps26 hR26 => ?_))))
    obtain ⟨pv, tv, rfl, rfl⟩ := hR26
    have ht := pRoot_top l
    refine WL_fact (r := 200) rfl (fun h hp => rd_one (rowB_rd _ hp)) (fun hpo => ?_)
    refine WL_fact (r := 201) rfl (fun h hp => rd_one (rowB_rd _ hp)) (fun hto => ?_)
    refine (WL_pure rfl rfl (by decide) (Pu_move rfl rfl) (WL_pure rfl rfl (by decide) (Pu_extract rfl rfl rfl) (WL_pure rfl rfl (by decide) (Pu_extract rfl rfl rfl) (WL_cons rfl rfl (by decide) (OpT_alloc (r := 203) (cs := (rootC nilS 0 zeroId nilS)) rfl (zero_run (by kernel_rfl : (Try.prog.info? 39).bind (·.zero) = some (.agg (rootC nilS 0 zeroId nilS).toArray))) rfl (fun g203 => (WL_cons0 rfl rfl (OpT_storeAll (r := 203) rfl Try.sizeOf39 rfl rfl rfl (rootC_length zeroId_length) (rootC_length ht) (one_root hpo hto) ?_))))))))
    skip
    refine (WL_pure rfl rfl (by decide) (Pu_assign rfl rfl) (WL_nil (X_then ?_)))
    refine W_seq ?_
    refine W_seq ?_
    refine W.pre (K' := [(0, _), (1, _), (2, _), (3, _), (4, _), (10, _), (11, _), (12, _), (23, _)]) (L' := [(0, _), (1, _), (200, _), (201, _), (203, _)]) ?_ ⟨rfl, ⟨rfl, ⟨rfl, ⟨rfl, ⟨rfl, ⟨rfl, ⟨rfl, ⟨rfl, ⟨rfl, trivial⟩⟩⟩⟩⟩⟩⟩⟩⟩ ⟨rfl, ⟨rfl, ⟨rfl, ⟨rfl, ⟨rfl, trivial⟩⟩⟩⟩⟩
    refine W_regL (WL_pure rfl rfl (by decide) (Pu_move rfl rfl) (WL_pure rfl rfl (by decide) (Pu_bin rfl rfl rfl (run_neq _ _ _ _ _ _)) (WL_nil (X_then ?_))))
    refine W_cond rfl (fun hc30 => ?_) (fun hc30 => ?_)
    ·
      have hne : pRootE l ≠ 0 := by simpa using hc30
      have hset := setO_cut (o := (some p)) hc23 hne
      refine W_seq ?_
      refine W.pre (K' := [(0, _), (1, _), (2, _), (3, _), (4, _), (10, _), (11, _), (12, _), (23, _), (30, _)]) (L' := [(0, _), (1, _), (200, _), (201, _), (203, _)]) ?_ ⟨rfl, ⟨rfl, ⟨rfl, ⟨rfl, ⟨rfl, ⟨rfl, ⟨rfl, ⟨rfl, ⟨rfl, ⟨rfl, trivial⟩⟩⟩⟩⟩⟩⟩⟩⟩⟩ ⟨rfl, ⟨rfl, ⟨rfl, ⟨rfl, ⟨rfl, trivial⟩⟩⟩⟩⟩
      refine W_regL (WL_pure rfl rfl (by decide) (Pu_move rfl rfl) (WL_pure rfl rfl (by decide) (Pu_assign rfl rfl) (WL_nil (X_then ?_))))
      refine W_ret (X_then_ret ?_)
      exact X_ret [1] (Ps := [_]) (res1 Try.results10 rfl) rfl (by decide) ⟨by rw [hset]; try rfl, by rw [hset]; try rfl⟩
    ·
      have hok : pRootE l = 0 := by simpa using hc30
      refine W_skip (X_then ?_)
      refine W_seq ?_
      refine W_seq ?_
      refine W.pre (K' := [(0, _), (1, _), (2, _), (3, _), (4, _), (10, _), (11, _), (12, _), (23, _), (30, _)]) (L' := [(0, _), (1, _), (200, _), (201, _), (203, _)]) ?_ ⟨rfl, ⟨rfl, ⟨rfl, ⟨rfl, ⟨rfl, ⟨rfl, ⟨rfl, ⟨rfl, ⟨rfl, ⟨rfl, trivial⟩⟩⟩⟩⟩⟩⟩⟩⟩⟩ ⟨rfl, ⟨rfl, ⟨rfl, ⟨rfl, ⟨rfl, trivial⟩⟩⟩⟩⟩
      refine W_draw (N := 11) (by kernel_rfl) rfl [(0, _), (203, _)] ⟨rfl, ⟨rfl, trivial⟩⟩ ?_
      refine (AH_take 0 rfl (by kernel_rfl) (by kernel_rfl) (by kernel_rfl) rfl rfl (by decide) (Pu_fieldAddrB (off := 0) rfl rfl (by kernel_rfl)) (AH_take 1 rfl (by kernel_rfl) (by kernel_rfl) (by kernel_rfl) rfl rfl (by decide) (Pu_loadB (r := 203) rfl Try.isAgg30 rfl rfl rfl) (AH_take 2 rfl (by kernel_rfl) (by kernel_rfl) (by kernel_rfl) rfl rfl (by decide) (Pu_fieldAddrB (off := 1) rfl rfl (by kernel_rfl)) (AH_take 3 rfl (by kernel_rfl) (by kernel_rfl) (by kernel_rfl) rfl rfl (by decide) (Pu_loadB (r := 203) rfl Try.isAgg3 rfl rfl rfl) (AH_take 4 rfl (by kernel_rfl) (by kernel_rfl) (by kernel_rfl) rfl rfl (by decide) (Pu_fieldAddrB (off := 2) rfl rfl (by kernel_rfl)) (AH_take 5 rfl (by kernel_rfl) (by kernel_rfl) (by kernel_rfl) rfl rfl (by decide) (Pu_loadBN (r := 203) rfl Try.isAgg29 Try.sizeOf29 rfl rfl ((bs_length _).trans ht) (take_rtop ht)) (AH_take 7 rfl (by kernel_rfl) (by kernel_rfl) (by kernel_rfl) rfl rfl (by decide) (Pu_fieldAddrB (off := 34) rfl rfl (by kernel_rfl)) (AH_take 8 rfl (by kernel_rfl) (by kernel_rfl) (by kernel_rfl) rfl rfl (by decide) (Pu_loadB (r := 203) rfl Try.isAgg30 rfl rfl (root_tail ht)) (AH_ready [6] (by kernel_rfl) (by decide) ?_)))))))))
      refine AHs_cons rfl rfl rfl (by decide) (OpT_call 300 [0, 1, 200, 201, 203] [] rfl Try.call22 rfl rfl rfl (by decide) (by decide) (claim_spec (pRoot l).ver (pRoot l).top ht _) (fun v38 Ps38 hR38 => ?_)) ?_
      ·
        subst hR38
        refine ⟨⟨rfl, ⟨rfl, trivial⟩⟩, ?_⟩
        refine (AH_ready [9] (by kernel_rfl) (by decide) ?_)
        refine AHs_cons rfl rfl rfl (by decide) (OpT_call 400 [0, 1, 200, 201, 203, 300] [] rfl Try.call21 rfl rfl rfl (by decide) (by decide) (lcheck_spec pv _ tv (pRoot l).pl (claimL (pRoot l).ver (pRoot l).top) (pRoot l).tl (by rw [claimL_length ht]; omega) _ (rd_star 2 rfl rowB_rd) (rd_star 5 rfl rowB_rd) (rd_star 3 rfl rowB_rd)) (fun v41 Ps41 hR41 => ?_)) ?_
        ·
          obtain ⟨rfl, rfl⟩ := hR41
          refine ⟨⟨rfl, ⟨rfl, trivial⟩⟩, ?_⟩
          refine (AH_take 10 rfl (by kernel_rfl) (by kernel_rfl) (by kernel_rfl) rfl rfl (by decide) (Pu_assign rfl rfl) (AH_done (by kernel_rfl) (X_then ?_)))
          refine W_seq ?_
          refine W.pre (K' := [(0, _), (1, _), (2, _), (3, _), (4, _), (10, _), (11, _), (12, _), (13, _), (23, _), (30, _)]) (L' := [(0, _), (1, _), (200, _), (201, _), (203, _), (300, _)]) ?_ ⟨rfl, ⟨rfl, ⟨rfl, ⟨rfl, ⟨rfl, ⟨rfl, ⟨rfl, ⟨rfl, ⟨rfl, ⟨rfl, ⟨rfl, trivial⟩⟩⟩⟩⟩⟩⟩⟩⟩⟩⟩ ⟨rfl, ⟨rfl, ⟨rfl, ⟨rfl, ⟨rfl, ⟨rfl, trivial⟩⟩⟩⟩⟩⟩
          refine W_regL (WL_pure rfl rfl (by decide) (Pu_move rfl rfl) (WL_pure rfl rfl (by decide) (Pu_bin rfl rfl rfl (run_neq _ _ _ _ _ _)) (WL_nil (X_then ?_))))
          refine W_cond rfl (fun hc43 => ?_) (fun hc43 => ?_)
          ·
            have hbad : chkL l ≠ 0 := by simpa using hc43
            have hset := setO_sign (o := (some p)) hc23 hok hbad
            refine W_seq ?_
            refine W.pre (K' := [(0, _), (1, _), (2, _), (3, _), (4, _), (10, _), (11, _), (12, _), (13, _), (23, _), (30, _), (43, _)]) (L' := [(0, _), (1, _), (200, _), (201, _), (203, _), (300, _)]) ?_ ⟨rfl, ⟨rfl, ⟨rfl, ⟨rfl, ⟨rfl, ⟨rfl, ⟨rfl, ⟨rfl, ⟨rfl, ⟨rfl, ⟨rfl, ⟨rfl, trivial⟩⟩⟩⟩⟩⟩⟩⟩⟩⟩⟩⟩ ⟨rfl, ⟨rfl, ⟨rfl, ⟨rfl, ⟨rfl, ⟨rfl, trivial⟩⟩⟩⟩⟩⟩
            refine W_regL (WL_pure rfl rfl (by decide) (Pu_move rfl rfl) (WL_pure rfl rfl (by decide) (Pu_assign rfl rfl) (WL_nil (X_then ?_))))
            refine W_ret (X_then_ret ?_)
            exact X_ret [1] (Ps := [_]) (res1 Try.results10 rfl) rfl (by decide) ⟨by rw [hset]; try rfl, by rw [hset]; try rfl⟩
          ·
            have hgood : chkL l = 0 := by simpa using hc43
            refine W_skip (X_then ?_)
            refine W_seq ?_
            refine W.pre (K' := [(0, _), (1, _), (2, _), (3, _), (4, _), (10, _), (11, _), (12, _), (13, _), (23, _), (30, _), (43, _)]) (L' := [(0, _), (1, _), (200, _), (201, _), (203, _), (300, _)]) ?_ ⟨rfl, ⟨rfl, ⟨rfl, ⟨rfl, ⟨rfl, ⟨rfl, ⟨rfl, ⟨rfl, ⟨rfl, ⟨rfl, ⟨rfl, ⟨rfl, trivial⟩⟩⟩⟩⟩⟩⟩⟩⟩⟩⟩⟩ ⟨rfl, ⟨rfl, ⟨rfl, ⟨rfl, ⟨rfl, ⟨rfl, trivial⟩⟩⟩⟩⟩⟩
            refine W_regL (WL_pure rfl rfl (by decide) (Pu_move rfl rfl) (WL_pure rfl rfl (by decide) (Pu_move rfl rfl) (WL_cons rfl rfl (by decide) (OpT_call 500 [0, 200, 201, 203, 300] [1] rfl Try.call23 rfl rfl rfl (by decide) (by decide) (sweepS_spec g most now (some p) (fun q h => by injection h with h; subst h; exact hlive) _) (fun v47 Ps47 hR47 => ?_)))))
            obtain ⟨rfl, rfl⟩ := hR47
            skip
            refine (WL_nil (X_then ?_))
            refine W_cut (α := Nat × Value) (fun z => [(0, .pointer (some ⟨g, 0, none⟩)), (3, .int .i64 exp), (11, .pointer (some ⟨g203, 0, none⟩)), (14, .pointer (some ⟨z.1, 0, none⟩))]) (fun z => [(0, F), (500, slotP g most (some p)), (203, blk g203 39 (rootC pv (pRoot l).ver (pRoot l).top tv)), (182, blk z.1 37 (bkC (sha (pRoot l).pl) (pRoot l).ver z.2 src exp)), (183, rowB 5 z.2 l)]) (fun z => z.2.oneCell' = true) ?_ (fun z hzo => ?_)
            ·
              refine W.pre (K' := [(0, _), (1, _), (2, _), (3, _), (4, _), (10, _), (11, _), (12, _), (13, _), (23, _), (30, _), (43, _)]) (L' := [(0, _), (200, _), (201, _), (203, _), (300, _), (500, _)]) ?_ ⟨rfl, ⟨rfl, ⟨rfl, ⟨rfl, ⟨rfl, ⟨rfl, ⟨rfl, ⟨rfl, ⟨rfl, ⟨rfl, ⟨rfl, ⟨rfl, trivial⟩⟩⟩⟩⟩⟩⟩⟩⟩⟩⟩⟩ ⟨rfl, ⟨rfl, ⟨rfl, ⟨rfl, ⟨rfl, ⟨rfl, trivial⟩⟩⟩⟩⟩⟩
              refine W_draw (N := 12) (by kernel_rfl) rfl [(0, _), (203, _)] ⟨rfl, ⟨rfl, trivial⟩⟩ ?_
              refine (AH_take 0 rfl (by kernel_rfl) (by kernel_rfl) (by kernel_rfl) rfl rfl (by decide) (Pu_fieldAddrB (off := 0) rfl rfl (by kernel_rfl)) (AH_take 1 rfl (by kernel_rfl) (by kernel_rfl) (by kernel_rfl) rfl rfl (by decide) (Pu_loadB (r := 203) rfl Try.isAgg30 rfl rfl rfl) (AH_take 3 rfl (by kernel_rfl) (by kernel_rfl) (by kernel_rfl) rfl rfl (by decide) (Pu_fieldAddrB (off := 1) rfl rfl (by kernel_rfl)) (AH_take 4 rfl (by kernel_rfl) (by kernel_rfl) (by kernel_rfl) rfl rfl (by decide) (Pu_loadB (r := 203) rfl Try.isAgg3 rfl rfl rfl) (AH_take 5 rfl (by kernel_rfl) (by kernel_rfl) (by kernel_rfl) rfl rfl (by decide) (Pu_move rfl rfl) (AH_take 7 rfl (by kernel_rfl) (by kernel_rfl) (by kernel_rfl) rfl rfl (by decide) (Pu_move rfl rfl) (AH_take 8 rfl (by kernel_rfl) (by kernel_rfl) (by kernel_rfl) rfl rfl (by decide) (Pu_move rfl rfl) (AH_ready [2, 10] (by kernel_rfl) (by decide) ?_))))))))
              refine AHs_cons rfl rfl rfl (by decide) (OpT_call 600 [0, 200, 201, 203, 300, 500] [] rfl Try.call24 rfl rfl rfl (by decide) (by decide) (sum_spec pv (pRoot l).pl (by have := pRoot_pl l; omega) _ (rd_star 1 rfl rowB_rd)) (fun v50 Ps50 hR50 => ?_)) ?_
              ·
                obtain ⟨rfl, rfl⟩ := hR50
                refine ⟨⟨rfl, ⟨rfl, trivial⟩⟩, ?_⟩
                refine (AH_ready [6, 10] (by kernel_rfl) (by decide) ?_)
                refine AHs_cons rfl rfl rfl (by decide) (OpT_call 700 [0, 200, 201, 203, 300, 500] [] rfl Try.call25 rfl rfl rfl (by decide) (by decide) (clone_spec v l (by omega) _ (rd_star 0 rfl hF)) (fun v54 Ps54 hR54 => ?_)) ?_
                ·
                  obtain ⟨ho54, rfl⟩ := hR54
                  refine ⟨⟨rfl, ⟨rfl, trivial⟩⟩, ?_⟩
                  skip
                  refine (AH_take 9 rfl (by kernel_rfl) (by kernel_rfl) (by kernel_rfl) rfl rfl (by decide) (Pu_build (V := .agg (bkC (sha (pRoot l).pl) (pRoot l).ver v54 src exp).toArray) [(0, 32), (32, 1), (33, 1), (34, 1), (35, 1)] (bkC zeroId 0 (.slice none 0 0) 0 0) rfl rfl (by kernel_rfl) (by kernel_rfl) (.many rfl ((bs_length _).trans (sha_length _)) (by simp [bkC, bs_length, zeroId_length]) rfl (.one rfl rfl (by simp only [List.length_set, slot_fit (sha_length _)]; decide) rfl (.one rfl ho54 (by simp only [List.length_set, slot_fit (sha_length _)]; decide) rfl (.one rfl rfl (by simp only [List.length_set, slot_fit (sha_length _)]; decide) rfl (.one rfl rfl (by simp only [List.length_set, slot_fit (sha_length _)]; decide) rfl (.nil _)))))) (slot_build (sha_length _) _ _ _ _)) (AH_ready [10] (by kernel_rfl) (by decide) ?_))
                  refine AHs_cons rfl rfl rfl (by decide) (OpT_alloc (r := 701) (cs := (bkC zeroId 0 (.slice none 0 0) 0 0)) rfl (zero_run (by kernel_rfl : (Try.prog.info? 37).bind (·.zero) = some (.agg (bkC zeroId 0 (.slice none 0 0) 0 0).toArray))) rfl (fun g701 => ⟨⟨rfl, ⟨rfl, trivial⟩⟩, ?_⟩)) ?_
                  ·
                    refine (AH_ready [11] (by kernel_rfl) (by decide) ?_)
                    refine AHs_cons0 rfl rfl rfl (OpT_storeAll (r := 701) rfl Try.sizeOf37 rfl rfl rfl (bkC_length rfl) (bkC_length (sha_length _)) (bkC_one ho54) ?_) ?_
                    ·
                      refine ⟨⟨rfl, ⟨rfl, trivial⟩⟩, ?_⟩
                      refine (AH_done (by kernel_rfl) ?_)
                      refine X_ren 701 182 rfl ?_
                      refine X_ren 700 183 rfl ?_
                      exact X_cut (g701, v54) ho54 ⟨rfl, rfl, rfl, rfl, trivial⟩ ⟨rfl, rfl, rfl, rfl, rfl, trivial⟩
                    exact AHs_nil
                  exact AHs_nil
                refine AHs_cons rfl rfl rfl (by decide) (OpT_alloc (r := 601) (cs := (bkC zeroId 0 (.slice none 0 0) 0 0)) rfl (zero_run (by kernel_rfl : (Try.prog.info? 37).bind (·.zero) = some (.agg (bkC zeroId 0 (.slice none 0 0) 0 0).toArray))) rfl (fun g601 => ⟨⟨rfl, ⟨rfl, trivial⟩⟩, ?_⟩)) ?_
                ·
                  refine (AH_ready [6] (by kernel_rfl) (by decide) ?_)
                  refine AHs_cons rfl rfl rfl (by decide) (OpT_call 700 [0, 200, 201, 203, 300, 500, 601] [] rfl Try.call25 rfl rfl rfl (by decide) (by decide) (clone_spec v l (by omega) _ (rd_star 0 rfl hF)) (fun v54 Ps54 hR54 => ?_)) ?_
                  ·
                    obtain ⟨ho54, rfl⟩ := hR54
                    refine ⟨⟨rfl, ⟨rfl, trivial⟩⟩, ?_⟩
                    skip
                    refine (AH_take 9 rfl (by kernel_rfl) (by kernel_rfl) (by kernel_rfl) rfl rfl (by decide) (Pu_build (V := .agg (bkC (sha (pRoot l).pl) (pRoot l).ver v54 src exp).toArray) [(0, 32), (32, 1), (33, 1), (34, 1), (35, 1)] (bkC zeroId 0 (.slice none 0 0) 0 0) rfl rfl (by kernel_rfl) (by kernel_rfl) (.many rfl ((bs_length _).trans (sha_length _)) (by simp [bkC, bs_length, zeroId_length]) rfl (.one rfl rfl (by simp only [List.length_set, slot_fit (sha_length _)]; decide) rfl (.one rfl ho54 (by simp only [List.length_set, slot_fit (sha_length _)]; decide) rfl (.one rfl rfl (by simp only [List.length_set, slot_fit (sha_length _)]; decide) rfl (.one rfl rfl (by simp only [List.length_set, slot_fit (sha_length _)]; decide) rfl (.nil _)))))) (slot_build (sha_length _) _ _ _ _)) (AH_ready [11] (by kernel_rfl) (by decide) ?_))
                    refine AHs_cons0 rfl rfl rfl (OpT_storeAll (r := 601) rfl Try.sizeOf37 rfl rfl rfl (bkC_length rfl) (bkC_length (sha_length _)) (bkC_one ho54) ?_) ?_
                    ·
                      refine ⟨⟨rfl, ⟨rfl, trivial⟩⟩, ?_⟩
                      refine (AH_done (by kernel_rfl) ?_)
                      refine X_ren 601 182 rfl ?_
                      refine X_ren 700 183 rfl ?_
                      exact X_cut (g601, v54) ho54 ⟨rfl, rfl, rfl, rfl, trivial⟩ ⟨rfl, rfl, rfl, rfl, rfl, trivial⟩
                    exact AHs_nil
                  exact AHs_nil
                exact AHs_nil
              refine AHs_cons rfl rfl rfl (by decide) (OpT_alloc (r := 501) (cs := (bkC zeroId 0 (.slice none 0 0) 0 0)) rfl (zero_run (by kernel_rfl : (Try.prog.info? 37).bind (·.zero) = some (.agg (bkC zeroId 0 (.slice none 0 0) 0 0).toArray))) rfl (fun g501 => ⟨⟨rfl, ⟨rfl, trivial⟩⟩, ?_⟩)) ?_
              ·
                refine (AH_ready [2] (by kernel_rfl) (by decide) ?_)
                refine AHs_cons rfl rfl rfl (by decide) (OpT_call 600 [0, 200, 201, 203, 300, 500, 501] [] rfl Try.call24 rfl rfl rfl (by decide) (by decide) (sum_spec pv (pRoot l).pl (by have := pRoot_pl l; omega) _ (rd_star 1 rfl rowB_rd)) (fun v50 Ps50 hR50 => ?_)) ?_
                ·
                  obtain ⟨rfl, rfl⟩ := hR50
                  refine ⟨⟨rfl, ⟨rfl, trivial⟩⟩, ?_⟩
                  refine (AH_ready [6] (by kernel_rfl) (by decide) ?_)
                  refine AHs_cons rfl rfl rfl (by decide) (OpT_call 700 [0, 200, 201, 203, 300, 500, 501] [] rfl Try.call25 rfl rfl rfl (by decide) (by decide) (clone_spec v l (by omega) _ (rd_star 0 rfl hF)) (fun v54 Ps54 hR54 => ?_)) ?_
                  ·
                    obtain ⟨ho54, rfl⟩ := hR54
                    refine ⟨⟨rfl, ⟨rfl, trivial⟩⟩, ?_⟩
                    skip
                    refine (AH_take 9 rfl (by kernel_rfl) (by kernel_rfl) (by kernel_rfl) rfl rfl (by decide) (Pu_build (V := .agg (bkC (sha (pRoot l).pl) (pRoot l).ver v54 src exp).toArray) [(0, 32), (32, 1), (33, 1), (34, 1), (35, 1)] (bkC zeroId 0 (.slice none 0 0) 0 0) rfl rfl (by kernel_rfl) (by kernel_rfl) (.many rfl ((bs_length _).trans (sha_length _)) (by simp [bkC, bs_length, zeroId_length]) rfl (.one rfl rfl (by simp only [List.length_set, slot_fit (sha_length _)]; decide) rfl (.one rfl ho54 (by simp only [List.length_set, slot_fit (sha_length _)]; decide) rfl (.one rfl rfl (by simp only [List.length_set, slot_fit (sha_length _)]; decide) rfl (.one rfl rfl (by simp only [List.length_set, slot_fit (sha_length _)]; decide) rfl (.nil _)))))) (slot_build (sha_length _) _ _ _ _)) (AH_ready [11] (by kernel_rfl) (by decide) ?_))
                    refine AHs_cons0 rfl rfl rfl (OpT_storeAll (r := 501) rfl Try.sizeOf37 rfl rfl rfl (bkC_length rfl) (bkC_length (sha_length _)) (bkC_one ho54) ?_) ?_
                    ·
                      refine ⟨⟨rfl, ⟨rfl, trivial⟩⟩, ?_⟩
                      refine (AH_done (by kernel_rfl) ?_)
                      refine X_ren 501 182 rfl ?_
                      refine X_ren 700 183 rfl ?_
                      exact X_cut (g501, v54) ho54 ⟨rfl, rfl, rfl, rfl, trivial⟩ ⟨rfl, rfl, rfl, rfl, rfl, trivial⟩
                    exact AHs_nil
                  exact AHs_nil
                exact AHs_nil
              exact AHs_nil
            ·
              refine W_seq ?_
              refine W.pre (K' := [(0, _), (3, _), (11, _), (14, _)]) (L' := [(0, _), (182, _), (183, _), (203, _), (500, _)]) ?_ ⟨rfl, ⟨rfl, ⟨rfl, ⟨rfl, trivial⟩⟩⟩⟩ ⟨rfl, ⟨rfl, ⟨rfl, ⟨rfl, ⟨rfl, trivial⟩⟩⟩⟩⟩
              refine W_openS 500 500 rfl (fun gm es hes => ?_)
              obtain ⟨e0, rfl, rfl⟩ := es_some hes
              have hk0 : e0.1.key = (sha (pRoot l).pl) := hkey
              have hf0 : findE (sha (pRoot l).pl) [e0] = some e0 := by simp [findE, hk0]
              have hB : getB (sha (pRoot l).pl) [e0] = e0.1 := by unfold getB; rw [hf0]; rfl
              refine W_draw (N := 13) (by kernel_rfl) rfl [(0, _), (182, _), (203, _), (500, _)] ⟨rfl, ⟨rfl, ⟨rfl, ⟨rfl, trivial⟩⟩⟩⟩ ?_
              refine (AH_take 0 rfl (by kernel_rfl) (by kernel_rfl) (by kernel_rfl) rfl rfl (by decide) (Pu_move rfl rfl) (AH_take 1 rfl (by kernel_rfl) (by kernel_rfl) (by kernel_rfl) rfl rfl (by decide) (Pu_nilCheck rfl rfl) (AH_take 2 rfl (by kernel_rfl) (by kernel_rfl) (by kernel_rfl) rfl rfl (by decide) (Pu_fieldAddrB (off := 1) rfl rfl (by kernel_rfl)) (AH_take 3 rfl (by kernel_rfl) (by kernel_rfl) (by kernel_rfl) rfl rfl (by decide) (Pu_loadB (r := 500) rfl Try.isAgg49 rfl rfl rfl) (AH_take 4 rfl (by kernel_rfl) (by kernel_rfl) (by kernel_rfl) rfl rfl (by decide) (Pu_fieldAddrB (off := 0) rfl rfl (by kernel_rfl)) (AH_take 5 rfl (by kernel_rfl) (by kernel_rfl) (by kernel_rfl) rfl rfl (by decide) (Pu_loadBN (r := 182) rfl Try.isAgg29 Try.sizeOf29 rfl rfl ((bs_length _).trans (sha_length _)) (bk_key (sha_length _))) (AH_ready [6, 10] (by kernel_rfl) (by decide) ?_)))))))
              refine AHs_cons rfl rfl rfl (by decide) (OpT_run (Pu_look (r := 501) rfl rfl rfl (sha_length _) rfl) ⟨⟨rfl, ⟨rfl, ⟨rfl, ⟨rfl, trivial⟩⟩⟩⟩, ?_⟩) ?_
              ·
                rw [hB, hf0]
                refine (AH_take 7 rfl (by kernel_rfl) (by kernel_rfl) (by kernel_rfl) rfl rfl (by decide) (Pu_move rfl rfl) (AH_take 8 rfl (by kernel_rfl) (by kernel_rfl) (by kernel_rfl) rfl rfl (by decide) (Pu_extract rfl rfl rfl) (AH_take 9 rfl (by kernel_rfl) (by kernel_rfl) (by kernel_rfl) rfl rfl (by decide) (Pu_extract rfl rfl rfl) (AH_ready [10] (by kernel_rfl) (by decide) ?_))))
                refine AHs_cons rfl rfl rfl (by decide) (OpT_alloc (r := 551) (cs := (bkC zeroId 0 (.slice none 0 0) 0 0)) rfl (zero_run (by kernel_rfl : (Try.prog.info? 37).bind (·.zero) = some (.agg (bkC zeroId 0 (.slice none 0 0) 0 0).toArray))) rfl (fun g551 => ⟨⟨rfl, ⟨rfl, ⟨rfl, ⟨rfl, trivial⟩⟩⟩⟩, ?_⟩)) ?_
                ·
                  refine (AH_ready [11] (by kernel_rfl) (by decide) ?_)
                  refine AHs_cons0 rfl rfl rfl (OpT_storeAll (r := 551) rfl Try.sizeOf37 rfl rfl rfl (bkC_length rfl) (bvC_length _) (bvC_one _) ?_) ?_
                  ·
                    refine ⟨⟨rfl, ⟨rfl, ⟨rfl, ⟨rfl, trivial⟩⟩⟩⟩, ?_⟩
                    refine (AH_take 12 rfl (by kernel_rfl) (by kernel_rfl) (by kernel_rfl) rfl rfl (by decide) (Pu_assign rfl rfl) (AH_done (by kernel_rfl) (X_then ?_)))
                    refine W_seq ?_
                    refine W_block ?_
                    refine W_seq ?_
                    refine W.pre (K' := [(0, _), (3, _), (11, _), (14, _), (15, _), (16, _)]) (L' := [(0, _), (182, _), (183, _), (203, _), (500, _), (501, _), (502, _), (551, _)]) ?_ ⟨rfl, ⟨rfl, ⟨rfl, ⟨rfl, ⟨rfl, ⟨rfl, trivial⟩⟩⟩⟩⟩⟩ ⟨rfl, ⟨rfl, ⟨rfl, ⟨rfl, ⟨rfl, ⟨rfl, ⟨rfl, ⟨rfl, trivial⟩⟩⟩⟩⟩⟩⟩⟩
                    refine W_regL (WL_pure rfl rfl (by decide) (Pu_move rfl rfl) (WL_pure rfl rfl (by decide) (Pu_move rfl rfl) (WL_gPT rfl rfl rfl rfl rfl (by decide) (Pu_fieldAddrB (off := 32) rfl rfl (by kernel_rfl)) (WL_gPT rfl rfl rfl rfl rfl (by decide) (Pu_loadB (r := 551) rfl Try.isAgg3 rfl rfl (bk_ver (BV.len _))) (WL_gPT rfl rfl rfl rfl rfl (by decide) (Pu_fieldAddrB (off := 1) rfl rfl (by kernel_rfl)) (WL_gPT rfl rfl rfl rfl rfl (by decide) (Pu_loadB (r := 203) rfl Try.isAgg3 rfl rfl rfl) (WL_gPT rfl rfl rfl rfl rfl (by decide) (Pu_bin rfl rfl rfl (run_gtr _ _ _ _ _ _)) (WL_pure rfl rfl (by decide) (Pu_pickT rfl rfl rfl rfl) (WL_pure rfl rfl (by decide) (Pu_assign rfl rfl) (WL_nil (X_then ?_)))))))))))
                    refine W_cond rfl (fun hc68 => ?_) (fun hc68 => ?_)
                    ·
                      have hset := setO_stale (p := toS e0) hc23 hok hgood (of_decide_eq_true hc68)
                      refine W_seq ?_
                      refine W.pre (K' := [(0, _), (3, _), (11, _), (14, _), (15, _), (16, _), (68, _)]) (L' := [(0, _), (182, _), (183, _), (203, _), (500, _), (501, _), (502, _), (551, _)]) ?_ ⟨rfl, ⟨rfl, ⟨rfl, ⟨rfl, ⟨rfl, ⟨rfl, ⟨rfl, trivial⟩⟩⟩⟩⟩⟩⟩ ⟨rfl, ⟨rfl, ⟨rfl, ⟨rfl, ⟨rfl, ⟨rfl, ⟨rfl, ⟨rfl, trivial⟩⟩⟩⟩⟩⟩⟩⟩
                      refine W_regL (WL_pure rfl rfl (by decide) (Pu_assign rfl rfl) (WL_nil (X_then ?_)))
                      refine W_ret (X_block_ret (X_then_ret ?_))
                      refine X_join [500, 501, 502] 1 (slotP g most (some (toS e0))) rfl (by decide) (fun h hs => closeS rfl hs) ?_
                      exact X_ret [1] (Ps := [_]) (res1 Try.results10 rfl) rfl (by decide) ⟨by rw [hset]; try rfl, by rw [hset]; try rfl⟩
                    ·
                      have hnl := of_decide_eq_false hc68
                      refine W_seq ?_
                      refine W.pre (K' := [(0, _), (3, _), (11, _), (14, _), (15, _), (16, _), (68, _)]) (L' := [(0, _), (182, _), (183, _), (203, _), (500, _), (501, _), (502, _), (551, _)]) ?_ ⟨rfl, ⟨rfl, ⟨rfl, ⟨rfl, ⟨rfl, ⟨rfl, ⟨rfl, trivial⟩⟩⟩⟩⟩⟩⟩ ⟨rfl, ⟨rfl, ⟨rfl, ⟨rfl, ⟨rfl, ⟨rfl, ⟨rfl, ⟨rfl, trivial⟩⟩⟩⟩⟩⟩⟩⟩
                      refine W_regL (WL_pure rfl rfl (by decide) (Pu_move rfl rfl) (WL_pure rfl rfl (by decide) (Pu_move rfl rfl) (WL_gPT rfl rfl rfl rfl rfl (by decide) (Pu_fieldAddrB (off := 32) rfl rfl (by kernel_rfl)) (WL_gPT rfl rfl rfl rfl rfl (by decide) (Pu_loadB (r := 551) rfl Try.isAgg3 rfl rfl (bk_ver (BV.len _))) (WL_gPT rfl rfl rfl rfl rfl (by decide) (Pu_fieldAddrB (off := 1) rfl rfl (by kernel_rfl)) (WL_gPT rfl rfl rfl rfl rfl (by decide) (Pu_loadB (r := 203) rfl Try.isAgg3 rfl rfl rfl) (WL_gPT rfl rfl rfl rfl rfl (by decide) (Pu_bin rfl rfl rfl (run_eql _ _ _ _ _ _)) (WL_pure rfl rfl (by decide) (Pu_pickT rfl rfl rfl rfl) (WL_pure rfl rfl (by decide) (Pu_assign rfl rfl) (WL_nil (X_then ?_)))))))))))
                      refine W_cond rfl (fun hc77 => ?_) (fun hc77 => ?_)
                      ·
                        have hset := setO_same (p := toS e0) hc23 hok hgood hnl (of_decide_eq_true hc77)
                        refine W_seq ?_
                        refine W.pre (K' := [(0, _), (3, _), (11, _), (14, _), (15, _), (16, _), (68, _), (77, _)]) (L' := [(0, _), (182, _), (183, _), (203, _), (500, _), (501, _), (502, _), (551, _)]) ?_ ⟨rfl, ⟨rfl, ⟨rfl, ⟨rfl, ⟨rfl, ⟨rfl, ⟨rfl, ⟨rfl, trivial⟩⟩⟩⟩⟩⟩⟩⟩ ⟨rfl, ⟨rfl, ⟨rfl, ⟨rfl, ⟨rfl, ⟨rfl, ⟨rfl, ⟨rfl, trivial⟩⟩⟩⟩⟩⟩⟩⟩
                        refine W_regL (WL_pure rfl rfl (by decide) (Pu_fieldAddrB (off := 35) rfl rfl (by kernel_rfl)) (WL_pure rfl rfl (by decide) (Pu_loadB (r := 551) rfl Try.isAgg3 rfl rfl (bk_exp (BV.len _))) (WL_pure rfl rfl (by decide) (Pu_move rfl rfl) (WL_pure rfl rfl (by decide) (Pu_max rfl rfl rfl) (WL_pure rfl rfl (by decide) (Pu_fieldAddrB (off := 35) rfl rfl (by kernel_rfl)) (WL_cons0 rfl rfl (OpT_storeB1 (r := 551) rfl Try.sizeOf3 rfl rfl rfl rfl (by rw [bvC_length]; decide) (bk_set_exp (BV.len _) _) ?_)))))))
                        refine (WL_nil (X_then ?_))
                        refine W.pre (K' := [(0, _), (3, _), (11, _), (14, _), (15, _), (16, _), (68, _), (77, _)]) (L' := [(0, _), (182, _), (183, _), (203, _), (500, _), (501, _), (502, _), (551, _)]) ?_ ⟨rfl, ⟨rfl, ⟨rfl, ⟨rfl, ⟨rfl, ⟨rfl, ⟨rfl, ⟨rfl, trivial⟩⟩⟩⟩⟩⟩⟩⟩ ⟨rfl, ⟨rfl, ⟨rfl, ⟨rfl, ⟨rfl, ⟨rfl, ⟨rfl, ⟨rfl, trivial⟩⟩⟩⟩⟩⟩⟩⟩
                        refine W_regL (WL_pure rfl rfl (by decide) (Pu_loadBN (r := 551) rfl Try.isAgg37 Try.sizeOf37 rfl rfl (bkC_length (BV.len _)) (load_all (bkC_length (BV.len _)))) (WL_cons0 rfl rfl (OpT_storeAll (r := 182) rfl Try.sizeOf37 rfl rfl rfl (bkC_length (sha_length _)) (bkC_length (BV.len _)) (bkC_one (BV.one _)) ?_)))
                        refine (WL_nil (X_block (X_then ?_)))
                        refine W_seq ?_
                        refine W.pre (K' := [(0, _), (3, _), (11, _), (14, _), (15, _), (16, _), (68, _), (77, _)]) (L' := [(0, _), (182, _), (183, _), (203, _), (500, _), (501, _), (502, _), (551, _)]) ?_ ⟨rfl, ⟨rfl, ⟨rfl, ⟨rfl, ⟨rfl, ⟨rfl, ⟨rfl, ⟨rfl, trivial⟩⟩⟩⟩⟩⟩⟩⟩ ⟨rfl, ⟨rfl, ⟨rfl, ⟨rfl, ⟨rfl, ⟨rfl, ⟨rfl, ⟨rfl, trivial⟩⟩⟩⟩⟩⟩⟩⟩
                        refine W_draw (N := 8) (by kernel_rfl) rfl [(0, _), (182, _), (203, _), (500, _), (551, _)] ⟨rfl, ⟨rfl, ⟨rfl, ⟨rfl, ⟨rfl, trivial⟩⟩⟩⟩⟩ ?_
                        refine (AH_take 0 rfl (by kernel_rfl) (by kernel_rfl) (by kernel_rfl) rfl rfl (by decide) (Pu_move rfl rfl) (AH_take 1 rfl (by kernel_rfl) (by kernel_rfl) (by kernel_rfl) rfl rfl (by decide) (Pu_nilCheck rfl rfl) (AH_take 2 rfl (by kernel_rfl) (by kernel_rfl) (by kernel_rfl) rfl rfl (by decide) (Pu_fieldAddrB (off := 1) rfl rfl (by kernel_rfl)) (AH_take 3 rfl (by kernel_rfl) (by kernel_rfl) (by kernel_rfl) rfl rfl (by decide) (Pu_loadB (r := 500) rfl Try.isAgg49 rfl rfl rfl) (AH_take 4 rfl (by kernel_rfl) (by kernel_rfl) (by kernel_rfl) rfl rfl (by decide) (Pu_fieldAddrB (off := 0) rfl rfl (by kernel_rfl)) (AH_take 5 rfl (by kernel_rfl) (by kernel_rfl) (by kernel_rfl) rfl rfl (by decide) (Pu_loadBN (r := 182) rfl Try.isAgg29 Try.sizeOf29 rfl rfl ((bs_length _).trans (BV.len _)) (bk_key (BV.len _))) (AH_take 6 rfl (by kernel_rfl) (by kernel_rfl) (by kernel_rfl) rfl rfl (by decide) (Pu_loadBN (r := 182) rfl Try.isAgg37 Try.sizeOf37 rfl rfl (bkC_length (BV.len _)) (load_all (bkC_length (BV.len _)))) (AH_ready [7] (by kernel_rfl) (by decide) ?_))))))))
                        refine AHs_cons0 rfl rfl rfl (OpT_mapPutQ (r := 501) (k := e0.1.key) (es := entsOf [e0]) (g := gm) keyB rfl Try.underlying49 rfl rfl (BV.len _) rfl rfl ?_) ?_
                        ·
                          refine ⟨⟨rfl, ⟨rfl, ⟨rfl, ⟨rfl, ⟨rfl, trivial⟩⟩⟩⟩⟩, ?_⟩
                          refine (AH_done (by kernel_rfl) (X_then ?_))
                          refine W_seq ?_
                          refine W.pre (K' := [(0, _), (3, _), (11, _), (14, _), (15, _), (16, _), (68, _), (77, _)]) (L' := [(0, _), (182, _), (183, _), (203, _), (500, _), (501, _), (502, _), (551, _)]) ?_ ⟨rfl, ⟨rfl, ⟨rfl, ⟨rfl, ⟨rfl, ⟨rfl, ⟨rfl, ⟨rfl, trivial⟩⟩⟩⟩⟩⟩⟩⟩ ⟨rfl, ⟨rfl, ⟨rfl, ⟨rfl, ⟨rfl, ⟨rfl, ⟨rfl, ⟨rfl, trivial⟩⟩⟩⟩⟩⟩⟩⟩
                          refine W_regL (WL_pure rfl rfl (by decide) (Pu_assign rfl rfl) (WL_nil (X_then ?_)))
                          refine W_ret ?_
                          refine X_turn (P' := mapB gm (entsOf [((⟨(e0.1.key, e0.1.ver, e0.1.sl, e0.1.src, max e0.1.exp exp), e0.1.len, e0.1.one⟩, e0.2) : EB)]) none) 501 rfl (fun h hp => put_turn (e := e0) rfl hp) ?_
                          refine X_turn (P' := datP [((⟨(e0.1.key, e0.1.ver, e0.1.sl, e0.1.src, max e0.1.exp exp), e0.1.len, e0.1.one⟩, e0.2) : EB)]) 502 rfl (fun h hp q hq => by rw [List.mem_singleton.1 hq]; exact hp e0 (List.mem_singleton.2 rfl)) ?_
                          refine X_join [500, 501, 502] 1 (slotP g most (some ⟨e0.1.key, e0.1.ver, e0.2, e0.1.src, max e0.1.exp exp⟩)) rfl (by decide) (fun h hs => closeS (es := [((⟨(e0.1.key, e0.1.ver, e0.1.sl, e0.1.src, max e0.1.exp exp), e0.1.len, e0.1.one⟩, e0.2) : EB)]) rfl hs) ?_
                          exact X_ret [1] (Ps := [_]) (res1 Try.results10 rfl) rfl (by decide) ⟨by rw [hset]; try rfl, by rw [hset]; try rfl⟩
                        exact AHs_nil
                      ·
                        have hset := setO_newer (p := toS e0) hc23 hok hgood hnl (of_decide_eq_false hc77)
                        refine W_seq ?_
                        refine W.pre (K' := [(0, _), (3, _), (11, _), (14, _), (15, _), (16, _), (68, _), (77, _)]) (L' := [(0, _), (182, _), (183, _), (203, _), (500, _), (501, _), (502, _), (551, _)]) ?_ ⟨rfl, ⟨rfl, ⟨rfl, ⟨rfl, ⟨rfl, ⟨rfl, ⟨rfl, ⟨rfl, trivial⟩⟩⟩⟩⟩⟩⟩⟩ ⟨rfl, ⟨rfl, ⟨rfl, ⟨rfl, ⟨rfl, ⟨rfl, ⟨rfl, ⟨rfl, trivial⟩⟩⟩⟩⟩⟩⟩⟩
                        refine W_draw (N := 15) (by kernel_rfl) rfl [(0, _), (182, _), (203, _), (500, _), (551, _), (501, _)] ⟨rfl, ⟨rfl, ⟨rfl, ⟨rfl, ⟨rfl, ⟨rfl, trivial⟩⟩⟩⟩⟩⟩ ?_
                        refine (AH_take 0 rfl (by kernel_rfl) (by kernel_rfl) (by kernel_rfl) rfl rfl (by decide) (Pu_move rfl rfl) (AH_take 1 rfl (by kernel_rfl) (by kernel_rfl) (by kernel_rfl) rfl rfl (by decide) (Pu_un rfl rfl (run_not _)) (AH_take 2 rfl (by kernel_rfl) (by kernel_rfl) (by kernel_rfl) rfl rfl (by decide) (Pu_move rfl rfl) (AH_takeF 3 rfl (by kernel_rfl) (by kernel_rfl) (by kernel_rfl) rfl rfl rfl rfl rfl (by decide) (AH_takeF 4 rfl (by kernel_rfl) (by kernel_rfl) (by kernel_rfl) rfl rfl rfl rfl rfl (by decide) (AH_takeF 5 rfl (by kernel_rfl) (by kernel_rfl) (by kernel_rfl) rfl rfl rfl rfl rfl (by decide) (AH_takeF 6 rfl (by kernel_rfl) (by kernel_rfl) (by kernel_rfl) rfl rfl rfl rfl rfl (by decide) (AH_takeF 7 rfl (by kernel_rfl) (by kernel_rfl) (by kernel_rfl) rfl rfl rfl rfl rfl (by decide) (AH_takeF 8 rfl (by kernel_rfl) (by kernel_rfl) (by kernel_rfl) rfl rfl rfl rfl rfl (by decide) (AH_takeF 9 rfl (by kernel_rfl) (by kernel_rfl) (by kernel_rfl) rfl rfl rfl rfl rfl (by decide) (AH_takeF 10 rfl (by kernel_rfl) (by kernel_rfl) (by kernel_rfl) rfl rfl rfl rfl rfl (by decide) (AH_takeF 11 rfl (by kernel_rfl) (by kernel_rfl) (by kernel_rfl) rfl rfl rfl rfl rfl (by decide) (AH_takeF 12 rfl (by kernel_rfl) (by kernel_rfl) (by kernel_rfl) rfl rfl rfl rfl rfl (by decide) (AH_take 13 rfl (by kernel_rfl) (by kernel_rfl) (by kernel_rfl) rfl rfl (by decide) (Pu_pickF rfl rfl rfl rfl) (AH_take 14 rfl (by kernel_rfl) (by kernel_rfl) (by kernel_rfl) rfl rfl (by decide) (Pu_assign rfl rfl) (AH_done (by kernel_rfl) (X_then ?_)))))))))))))))))
                        refine W_false rfl (rfl) ?_
                        refine W_skip (X_block (X_then ?_))
                        refine W_seq ?_
                        refine W.pre (K' := [(0, _), (3, _), (11, _), (14, _), (15, _), (16, _), (68, _), (77, _), (92, _)]) (L' := [(0, _), (182, _), (183, _), (203, _), (500, _), (501, _), (502, _), (551, _)]) ?_ ⟨rfl, ⟨rfl, ⟨rfl, ⟨rfl, ⟨rfl, ⟨rfl, ⟨rfl, ⟨rfl, ⟨rfl, trivial⟩⟩⟩⟩⟩⟩⟩⟩⟩ ⟨rfl, ⟨rfl, ⟨rfl, ⟨rfl, ⟨rfl, ⟨rfl, ⟨rfl, ⟨rfl, trivial⟩⟩⟩⟩⟩⟩⟩⟩
                        refine W_draw (N := 8) (by kernel_rfl) rfl [(0, _), (182, _), (203, _), (500, _), (551, _)] ⟨rfl, ⟨rfl, ⟨rfl, ⟨rfl, ⟨rfl, trivial⟩⟩⟩⟩⟩ ?_
                        refine (AH_take 0 rfl (by kernel_rfl) (by kernel_rfl) (by kernel_rfl) rfl rfl (by decide) (Pu_move rfl rfl) (AH_take 1 rfl (by kernel_rfl) (by kernel_rfl) (by kernel_rfl) rfl rfl (by decide) (Pu_nilCheck rfl rfl) (AH_take 2 rfl (by kernel_rfl) (by kernel_rfl) (by kernel_rfl) rfl rfl (by decide) (Pu_fieldAddrB (off := 1) rfl rfl (by kernel_rfl)) (AH_take 3 rfl (by kernel_rfl) (by kernel_rfl) (by kernel_rfl) rfl rfl (by decide) (Pu_loadB (r := 500) rfl Try.isAgg49 rfl rfl rfl) (AH_take 4 rfl (by kernel_rfl) (by kernel_rfl) (by kernel_rfl) rfl rfl (by decide) (Pu_fieldAddrB (off := 0) rfl rfl (by kernel_rfl)) (AH_take 5 rfl (by kernel_rfl) (by kernel_rfl) (by kernel_rfl) rfl rfl (by decide) (Pu_loadBN (r := 182) rfl Try.isAgg29 Try.sizeOf29 rfl rfl ((bs_length _).trans (sha_length _)) (bk_key (sha_length _))) (AH_take 6 rfl (by kernel_rfl) (by kernel_rfl) (by kernel_rfl) rfl rfl (by decide) (Pu_loadBN (r := 182) rfl Try.isAgg37 Try.sizeOf37 rfl rfl (bkC_length (sha_length _)) (load_all (bkC_length (sha_length _)))) (AH_ready [7] (by kernel_rfl) (by decide) ?_))))))))
                        refine AHs_cons0 rfl rfl rfl (OpT_mapPutQ (r := 501) (k := (sha (pRoot l).pl)) (es := entsOf [e0]) (g := gm) keyB rfl Try.underlying49 rfl rfl (sha_length _) rfl rfl ?_) ?_
                        ·
                          refine ⟨⟨rfl, ⟨rfl, ⟨rfl, ⟨rfl, ⟨rfl, trivial⟩⟩⟩⟩⟩, ?_⟩
                          refine (AH_done (by kernel_rfl) (X_then ?_))
                          refine W_seq ?_
                          refine W.pre (K' := [(0, _), (3, _), (11, _), (14, _), (15, _), (16, _), (68, _), (77, _), (92, _)]) (L' := [(0, _), (182, _), (183, _), (203, _), (500, _), (501, _), (502, _), (551, _)]) ?_ ⟨rfl, ⟨rfl, ⟨rfl, ⟨rfl, ⟨rfl, ⟨rfl, ⟨rfl, ⟨rfl, ⟨rfl, trivial⟩⟩⟩⟩⟩⟩⟩⟩⟩ ⟨rfl, ⟨rfl, ⟨rfl, ⟨rfl, ⟨rfl, ⟨rfl, ⟨rfl, ⟨rfl, trivial⟩⟩⟩⟩⟩⟩⟩⟩
                          refine W_regL (WL_pure rfl rfl (by decide) (Pu_assign rfl rfl) (WL_nil (X_then ?_)))
                          refine W_ret ?_
                          refine X_turn (P' := mapB gm (entsOf [((⟨((sha (pRoot l).pl), (pRoot l).ver, z.2, src, exp), sha_length _, hzo⟩, l) : EB)]) none) 501 rfl (fun h hp => put_turn (e := e0) hk0 hp) ?_
                          refine X_turn (P' := datP [((⟨((sha (pRoot l).pl), (pRoot l).ver, z.2, src, exp), sha_length _, hzo⟩, l) : EB)]) 183 rfl (fun h hp q hq => by rw [List.mem_singleton.1 hq]; exact rowB_rd _ hp) ?_
                          refine X_join [500, 501, 183] 1 (slotP g most (some ⟨(sha (pRoot l).pl), (pRoot l).ver, l, src, exp⟩)) rfl (by decide) (fun h hs => closeS (es := [((⟨((sha (pRoot l).pl), (pRoot l).ver, z.2, src, exp), sha_length _, hzo⟩, l) : EB)]) rfl hs) ?_
                          exact X_ret [1] (Ps := [_]) (res1 Try.results10 rfl) rfl (by decide) ⟨by rw [hset]; try rfl, by rw [hset]; try rfl⟩
                        exact AHs_nil
                  exact AHs_nil
                exact AHs_nil
              refine AHs_cons rfl rfl rfl (by decide) (OpT_alloc (r := 551) (cs := (bkC zeroId 0 (.slice none 0 0) 0 0)) rfl (zero_run (by kernel_rfl : (Try.prog.info? 37).bind (·.zero) = some (.agg (bkC zeroId 0 (.slice none 0 0) 0 0).toArray))) rfl (fun g551 => ⟨⟨rfl, ⟨rfl, ⟨rfl, ⟨rfl, trivial⟩⟩⟩⟩, ?_⟩)) ?_
              ·
                refine (AH_ready [6] (by kernel_rfl) (by decide) ?_)
                refine AHs_cons rfl rfl rfl (by decide) (OpT_run (Pu_look (r := 501) rfl rfl rfl (sha_length _) rfl) ⟨⟨rfl, ⟨rfl, ⟨rfl, ⟨rfl, trivial⟩⟩⟩⟩, ?_⟩) ?_
                ·
                  rw [hB, hf0]
                  refine (AH_take 7 rfl (by kernel_rfl) (by kernel_rfl) (by kernel_rfl) rfl rfl (by decide) (Pu_move rfl rfl) (AH_take 8 rfl (by kernel_rfl) (by kernel_rfl) (by kernel_rfl) rfl rfl (by decide) (Pu_extract rfl rfl rfl) (AH_take 9 rfl (by kernel_rfl) (by kernel_rfl) (by kernel_rfl) rfl rfl (by decide) (Pu_extract rfl rfl rfl) (AH_ready [11] (by kernel_rfl) (by decide) ?_))))
                  refine AHs_cons0 rfl rfl rfl (OpT_storeAll (r := 551) rfl Try.sizeOf37 rfl rfl rfl (bkC_length rfl) (bvC_length _) (bvC_one _) ?_) ?_
                  ·
                    refine ⟨⟨rfl, ⟨rfl, ⟨rfl, ⟨rfl, trivial⟩⟩⟩⟩, ?_⟩
                    refine (AH_take 12 rfl (by kernel_rfl) (by kernel_rfl) (by kernel_rfl) rfl rfl (by decide) (Pu_assign rfl rfl) (AH_done (by kernel_rfl) (X_then ?_)))
                    refine W_seq ?_
                    refine W_block ?_
                    refine W_seq ?_
                    refine W.pre (K' := [(0, _), (3, _), (11, _), (14, _), (15, _), (16, _)]) (L' := [(0, _), (182, _), (183, _), (203, _), (500, _), (501, _), (502, _), (551, _)]) ?_ ⟨rfl, ⟨rfl, ⟨rfl, ⟨rfl, ⟨rfl, ⟨rfl, trivial⟩⟩⟩⟩⟩⟩ ⟨rfl, ⟨rfl, ⟨rfl, ⟨rfl, ⟨rfl, ⟨rfl, ⟨rfl, ⟨rfl, trivial⟩⟩⟩⟩⟩⟩⟩⟩
                    refine W_regL (WL_pure rfl rfl (by decide) (Pu_move rfl rfl) (WL_pure rfl rfl (by decide) (Pu_move rfl rfl) (WL_gPT rfl rfl rfl rfl rfl (by decide) (Pu_fieldAddrB (off := 32) rfl rfl (by kernel_rfl)) (WL_gPT rfl rfl rfl rfl rfl (by decide) (Pu_loadB (r := 551) rfl Try.isAgg3 rfl rfl (bk_ver (BV.len _))) (WL_gPT rfl rfl rfl rfl rfl (by decide) (Pu_fieldAddrB (off := 1) rfl rfl (by kernel_rfl)) (WL_gPT rfl rfl rfl rfl rfl (by decide) (Pu_loadB (r := 203) rfl Try.isAgg3 rfl rfl rfl) (WL_gPT rfl rfl rfl rfl rfl (by decide) (Pu_bin rfl rfl rfl (run_gtr _ _ _ _ _ _)) (WL_pure rfl rfl (by decide) (Pu_pickT rfl rfl rfl rfl) (WL_pure rfl rfl (by decide) (Pu_assign rfl rfl) (WL_nil (X_then ?_)))))))))))
                    refine W_cond rfl (fun hc68 => ?_) (fun hc68 => ?_)
                    ·
                      have hset := setO_stale (p := toS e0) hc23 hok hgood (of_decide_eq_true hc68)
                      refine W_seq ?_
                      refine W.pre (K' := [(0, _), (3, _), (11, _), (14, _), (15, _), (16, _), (68, _)]) (L' := [(0, _), (182, _), (183, _), (203, _), (500, _), (501, _), (502, _), (551, _)]) ?_ ⟨rfl, ⟨rfl, ⟨rfl, ⟨rfl, ⟨rfl, ⟨rfl, ⟨rfl, trivial⟩⟩⟩⟩⟩⟩⟩ ⟨rfl, ⟨rfl, ⟨rfl, ⟨rfl, ⟨rfl, ⟨rfl, ⟨rfl, ⟨rfl, trivial⟩⟩⟩⟩⟩⟩⟩⟩
                      refine W_regL (WL_pure rfl rfl (by decide) (Pu_assign rfl rfl) (WL_nil (X_then ?_)))
                      refine W_ret (X_block_ret (X_then_ret ?_))
                      refine X_join [500, 501, 502] 1 (slotP g most (some (toS e0))) rfl (by decide) (fun h hs => closeS rfl hs) ?_
                      exact X_ret [1] (Ps := [_]) (res1 Try.results10 rfl) rfl (by decide) ⟨by rw [hset]; try rfl, by rw [hset]; try rfl⟩
                    ·
                      have hnl := of_decide_eq_false hc68
                      refine W_seq ?_
                      refine W.pre (K' := [(0, _), (3, _), (11, _), (14, _), (15, _), (16, _), (68, _)]) (L' := [(0, _), (182, _), (183, _), (203, _), (500, _), (501, _), (502, _), (551, _)]) ?_ ⟨rfl, ⟨rfl, ⟨rfl, ⟨rfl, ⟨rfl, ⟨rfl, ⟨rfl, trivial⟩⟩⟩⟩⟩⟩⟩ ⟨rfl, ⟨rfl, ⟨rfl, ⟨rfl, ⟨rfl, ⟨rfl, ⟨rfl, ⟨rfl, trivial⟩⟩⟩⟩⟩⟩⟩⟩
                      refine W_regL (WL_pure rfl rfl (by decide) (Pu_move rfl rfl) (WL_pure rfl rfl (by decide) (Pu_move rfl rfl) (WL_gPT rfl rfl rfl rfl rfl (by decide) (Pu_fieldAddrB (off := 32) rfl rfl (by kernel_rfl)) (WL_gPT rfl rfl rfl rfl rfl (by decide) (Pu_loadB (r := 551) rfl Try.isAgg3 rfl rfl (bk_ver (BV.len _))) (WL_gPT rfl rfl rfl rfl rfl (by decide) (Pu_fieldAddrB (off := 1) rfl rfl (by kernel_rfl)) (WL_gPT rfl rfl rfl rfl rfl (by decide) (Pu_loadB (r := 203) rfl Try.isAgg3 rfl rfl rfl) (WL_gPT rfl rfl rfl rfl rfl (by decide) (Pu_bin rfl rfl rfl (run_eql _ _ _ _ _ _)) (WL_pure rfl rfl (by decide) (Pu_pickT rfl rfl rfl rfl) (WL_pure rfl rfl (by decide) (Pu_assign rfl rfl) (WL_nil (X_then ?_)))))))))))
                      refine W_cond rfl (fun hc77 => ?_) (fun hc77 => ?_)
                      ·
                        have hset := setO_same (p := toS e0) hc23 hok hgood hnl (of_decide_eq_true hc77)
                        refine W_seq ?_
                        refine W.pre (K' := [(0, _), (3, _), (11, _), (14, _), (15, _), (16, _), (68, _), (77, _)]) (L' := [(0, _), (182, _), (183, _), (203, _), (500, _), (501, _), (502, _), (551, _)]) ?_ ⟨rfl, ⟨rfl, ⟨rfl, ⟨rfl, ⟨rfl, ⟨rfl, ⟨rfl, ⟨rfl, trivial⟩⟩⟩⟩⟩⟩⟩⟩ ⟨rfl, ⟨rfl, ⟨rfl, ⟨rfl, ⟨rfl, ⟨rfl, ⟨rfl, ⟨rfl, trivial⟩⟩⟩⟩⟩⟩⟩⟩
                        refine W_regL (WL_pure rfl rfl (by decide) (Pu_fieldAddrB (off := 35) rfl rfl (by kernel_rfl)) (WL_pure rfl rfl (by decide) (Pu_loadB (r := 551) rfl Try.isAgg3 rfl rfl (bk_exp (BV.len _))) (WL_pure rfl rfl (by decide) (Pu_move rfl rfl) (WL_pure rfl rfl (by decide) (Pu_max rfl rfl rfl) (WL_pure rfl rfl (by decide) (Pu_fieldAddrB (off := 35) rfl rfl (by kernel_rfl)) (WL_cons0 rfl rfl (OpT_storeB1 (r := 551) rfl Try.sizeOf3 rfl rfl rfl rfl (by rw [bvC_length]; decide) (bk_set_exp (BV.len _) _) ?_)))))))
                        refine (WL_nil (X_then ?_))
                        refine W.pre (K' := [(0, _), (3, _), (11, _), (14, _), (15, _), (16, _), (68, _), (77, _)]) (L' := [(0, _), (182, _), (183, _), (203, _), (500, _), (501, _), (502, _), (551, _)]) ?_ ⟨rfl, ⟨rfl, ⟨rfl, ⟨rfl, ⟨rfl, ⟨rfl, ⟨rfl, ⟨rfl, trivial⟩⟩⟩⟩⟩⟩⟩⟩ ⟨rfl, ⟨rfl, ⟨rfl, ⟨rfl, ⟨rfl, ⟨rfl, ⟨rfl, ⟨rfl, trivial⟩⟩⟩⟩⟩⟩⟩⟩
                        refine W_regL (WL_pure rfl rfl (by decide) (Pu_loadBN (r := 551) rfl Try.isAgg37 Try.sizeOf37 rfl rfl (bkC_length (BV.len _)) (load_all (bkC_length (BV.len _)))) (WL_cons0 rfl rfl (OpT_storeAll (r := 182) rfl Try.sizeOf37 rfl rfl rfl (bkC_length (sha_length _)) (bkC_length (BV.len _)) (bkC_one (BV.one _)) ?_)))
                        refine (WL_nil (X_block (X_then ?_)))
                        refine W_seq ?_
                        refine W.pre (K' := [(0, _), (3, _), (11, _), (14, _), (15, _), (16, _), (68, _), (77, _)]) (L' := [(0, _), (182, _), (183, _), (203, _), (500, _), (501, _), (502, _), (551, _)]) ?_ ⟨rfl, ⟨rfl, ⟨rfl, ⟨rfl, ⟨rfl, ⟨rfl, ⟨rfl, ⟨rfl, trivial⟩⟩⟩⟩⟩⟩⟩⟩ ⟨rfl, ⟨rfl, ⟨rfl, ⟨rfl, ⟨rfl, ⟨rfl, ⟨rfl, ⟨rfl, trivial⟩⟩⟩⟩⟩⟩⟩⟩
                        refine W_draw (N := 8) (by kernel_rfl) rfl [(0, _), (182, _), (203, _), (500, _), (551, _)] ⟨rfl, ⟨rfl, ⟨rfl, ⟨rfl, ⟨rfl, trivial⟩⟩⟩⟩⟩ ?_
                        refine (AH_take 0 rfl (by kernel_rfl) (by kernel_rfl) (by kernel_rfl) rfl rfl (by decide) (Pu_move rfl rfl) (AH_take 1 rfl (by kernel_rfl) (by kernel_rfl) (by kernel_rfl) rfl rfl (by decide) (Pu_nilCheck rfl rfl) (AH_take 2 rfl (by kernel_rfl) (by kernel_rfl) (by kernel_rfl) rfl rfl (by decide) (Pu_fieldAddrB (off := 1) rfl rfl (by kernel_rfl)) (AH_take 3 rfl (by kernel_rfl) (by kernel_rfl) (by kernel_rfl) rfl rfl (by decide) (Pu_loadB (r := 500) rfl Try.isAgg49 rfl rfl rfl) (AH_take 4 rfl (by kernel_rfl) (by kernel_rfl) (by kernel_rfl) rfl rfl (by decide) (Pu_fieldAddrB (off := 0) rfl rfl (by kernel_rfl)) (AH_take 5 rfl (by kernel_rfl) (by kernel_rfl) (by kernel_rfl) rfl rfl (by decide) (Pu_loadBN (r := 182) rfl Try.isAgg29 Try.sizeOf29 rfl rfl ((bs_length _).trans (BV.len _)) (bk_key (BV.len _))) (AH_take 6 rfl (by kernel_rfl) (by kernel_rfl) (by kernel_rfl) rfl rfl (by decide) (Pu_loadBN (r := 182) rfl Try.isAgg37 Try.sizeOf37 rfl rfl (bkC_length (BV.len _)) (load_all (bkC_length (BV.len _)))) (AH_ready [7] (by kernel_rfl) (by decide) ?_))))))))
                        refine AHs_cons0 rfl rfl rfl (OpT_mapPutQ (r := 501) (k := e0.1.key) (es := entsOf [e0]) (g := gm) keyB rfl Try.underlying49 rfl rfl (BV.len _) rfl rfl ?_) ?_
                        ·
                          refine ⟨⟨rfl, ⟨rfl, ⟨rfl, ⟨rfl, ⟨rfl, trivial⟩⟩⟩⟩⟩, ?_⟩
                          refine (AH_done (by kernel_rfl) (X_then ?_))
                          refine W_seq ?_
                          refine W.pre (K' := [(0, _), (3, _), (11, _), (14, _), (15, _), (16, _), (68, _), (77, _)]) (L' := [(0, _), (182, _), (183, _), (203, _), (500, _), (501, _), (502, _), (551, _)]) ?_ ⟨rfl, ⟨rfl, ⟨rfl, ⟨rfl, ⟨rfl, ⟨rfl, ⟨rfl, ⟨rfl, trivial⟩⟩⟩⟩⟩⟩⟩⟩ ⟨rfl, ⟨rfl, ⟨rfl, ⟨rfl, ⟨rfl, ⟨rfl, ⟨rfl, ⟨rfl, trivial⟩⟩⟩⟩⟩⟩⟩⟩
                          refine W_regL (WL_pure rfl rfl (by decide) (Pu_assign rfl rfl) (WL_nil (X_then ?_)))
                          refine W_ret ?_
                          refine X_turn (P' := mapB gm (entsOf [((⟨(e0.1.key, e0.1.ver, e0.1.sl, e0.1.src, max e0.1.exp exp), e0.1.len, e0.1.one⟩, e0.2) : EB)]) none) 501 rfl (fun h hp => put_turn (e := e0) rfl hp) ?_
                          refine X_turn (P' := datP [((⟨(e0.1.key, e0.1.ver, e0.1.sl, e0.1.src, max e0.1.exp exp), e0.1.len, e0.1.one⟩, e0.2) : EB)]) 502 rfl (fun h hp q hq => by rw [List.mem_singleton.1 hq]; exact hp e0 (List.mem_singleton.2 rfl)) ?_
                          refine X_join [500, 501, 502] 1 (slotP g most (some ⟨e0.1.key, e0.1.ver, e0.2, e0.1.src, max e0.1.exp exp⟩)) rfl (by decide) (fun h hs => closeS (es := [((⟨(e0.1.key, e0.1.ver, e0.1.sl, e0.1.src, max e0.1.exp exp), e0.1.len, e0.1.one⟩, e0.2) : EB)]) rfl hs) ?_
                          exact X_ret [1] (Ps := [_]) (res1 Try.results10 rfl) rfl (by decide) ⟨by rw [hset]; try rfl, by rw [hset]; try rfl⟩
                        exact AHs_nil
                      ·
                        have hset := setO_newer (p := toS e0) hc23 hok hgood hnl (of_decide_eq_false hc77)
                        refine W_seq ?_
                        refine W.pre (K' := [(0, _), (3, _), (11, _), (14, _), (15, _), (16, _), (68, _), (77, _)]) (L' := [(0, _), (182, _), (183, _), (203, _), (500, _), (501, _), (502, _), (551, _)]) ?_ ⟨rfl, ⟨rfl, ⟨rfl, ⟨rfl, ⟨rfl, ⟨rfl, ⟨rfl, ⟨rfl, trivial⟩⟩⟩⟩⟩⟩⟩⟩ ⟨rfl, ⟨rfl, ⟨rfl, ⟨rfl, ⟨rfl, ⟨rfl, ⟨rfl, ⟨rfl, trivial⟩⟩⟩⟩⟩⟩⟩⟩
                        refine W_draw (N := 15) (by kernel_rfl) rfl [(0, _), (182, _), (203, _), (500, _), (551, _), (501, _)] ⟨rfl, ⟨rfl, ⟨rfl, ⟨rfl, ⟨rfl, ⟨rfl, trivial⟩⟩⟩⟩⟩⟩ ?_
                        refine (AH_take 0 rfl (by kernel_rfl) (by kernel_rfl) (by kernel_rfl) rfl rfl (by decide) (Pu_move rfl rfl) (AH_take 1 rfl (by kernel_rfl) (by kernel_rfl) (by kernel_rfl) rfl rfl (by decide) (Pu_un rfl rfl (run_not _)) (AH_take 2 rfl (by kernel_rfl) (by kernel_rfl) (by kernel_rfl) rfl rfl (by decide) (Pu_move rfl rfl) (AH_takeF 3 rfl (by kernel_rfl) (by kernel_rfl) (by kernel_rfl) rfl rfl rfl rfl rfl (by decide) (AH_takeF 4 rfl (by kernel_rfl) (by kernel_rfl) (by kernel_rfl) rfl rfl rfl rfl rfl (by decide) (AH_takeF 5 rfl (by kernel_rfl) (by kernel_rfl) (by kernel_rfl) rfl rfl rfl rfl rfl (by decide) (AH_takeF 6 rfl (by kernel_rfl) (by kernel_rfl) (by kernel_rfl) rfl rfl rfl rfl rfl (by decide) (AH_takeF 7 rfl (by kernel_rfl) (by kernel_rfl) (by kernel_rfl) rfl rfl rfl rfl rfl (by decide) (AH_takeF 8 rfl (by kernel_rfl) (by kernel_rfl) (by kernel_rfl) rfl rfl rfl rfl rfl (by decide) (AH_takeF 9 rfl (by kernel_rfl) (by kernel_rfl) (by kernel_rfl) rfl rfl rfl rfl rfl (by decide) (AH_takeF 10 rfl (by kernel_rfl) (by kernel_rfl) (by kernel_rfl) rfl rfl rfl rfl rfl (by decide) (AH_takeF 11 rfl (by kernel_rfl) (by kernel_rfl) (by kernel_rfl) rfl rfl rfl rfl rfl (by decide) (AH_takeF 12 rfl (by kernel_rfl) (by kernel_rfl) (by kernel_rfl) rfl rfl rfl rfl rfl (by decide) (AH_take 13 rfl (by kernel_rfl) (by kernel_rfl) (by kernel_rfl) rfl rfl (by decide) (Pu_pickF rfl rfl rfl rfl) (AH_take 14 rfl (by kernel_rfl) (by kernel_rfl) (by kernel_rfl) rfl rfl (by decide) (Pu_assign rfl rfl) (AH_done (by kernel_rfl) (X_then ?_)))))))))))))))))
                        refine W_false rfl (rfl) ?_
                        refine W_skip (X_block (X_then ?_))
                        refine W_seq ?_
                        refine W.pre (K' := [(0, _), (3, _), (11, _), (14, _), (15, _), (16, _), (68, _), (77, _), (92, _)]) (L' := [(0, _), (182, _), (183, _), (203, _), (500, _), (501, _), (502, _), (551, _)]) ?_ ⟨rfl, ⟨rfl, ⟨rfl, ⟨rfl, ⟨rfl, ⟨rfl, ⟨rfl, ⟨rfl, ⟨rfl, trivial⟩⟩⟩⟩⟩⟩⟩⟩⟩ ⟨rfl, ⟨rfl, ⟨rfl, ⟨rfl, ⟨rfl, ⟨rfl, ⟨rfl, ⟨rfl, trivial⟩⟩⟩⟩⟩⟩⟩⟩
                        refine W_draw (N := 8) (by kernel_rfl) rfl [(0, _), (182, _), (203, _), (500, _), (551, _)] ⟨rfl, ⟨rfl, ⟨rfl, ⟨rfl, ⟨rfl, trivial⟩⟩⟩⟩⟩ ?_
                        refine (AH_take 0 rfl (by kernel_rfl) (by kernel_rfl) (by kernel_rfl) rfl rfl (by decide) (Pu_move rfl rfl) (AH_take 1 rfl (by kernel_rfl) (by kernel_rfl) (by kernel_rfl) rfl rfl (by decide) (Pu_nilCheck rfl rfl) (AH_take 2 rfl (by kernel_rfl) (by kernel_rfl) (by kernel_rfl) rfl rfl (by decide) (Pu_fieldAddrB (off := 1) rfl rfl (by kernel_rfl)) (AH_take 3 rfl (by kernel_rfl) (by kernel_rfl) (by kernel_rfl) rfl rfl (by decide) (Pu_loadB (r := 500) rfl Try.isAgg49 rfl rfl rfl) (AH_take 4 rfl (by kernel_rfl) (by kernel_rfl) (by kernel_rfl) rfl rfl (by decide) (Pu_fieldAddrB (off := 0) rfl rfl (by kernel_rfl)) (AH_take 5 rfl (by kernel_rfl) (by kernel_rfl) (by kernel_rfl) rfl rfl (by decide) (Pu_loadBN (r := 182) rfl Try.isAgg29 Try.sizeOf29 rfl rfl ((bs_length _).trans (sha_length _)) (bk_key (sha_length _))) (AH_take 6 rfl (by kernel_rfl) (by kernel_rfl) (by kernel_rfl) rfl rfl (by decide) (Pu_loadBN (r := 182) rfl Try.isAgg37 Try.sizeOf37 rfl rfl (bkC_length (sha_length _)) (load_all (bkC_length (sha_length _)))) (AH_ready [7] (by kernel_rfl) (by decide) ?_))))))))
                        refine AHs_cons0 rfl rfl rfl (OpT_mapPutQ (r := 501) (k := (sha (pRoot l).pl)) (es := entsOf [e0]) (g := gm) keyB rfl Try.underlying49 rfl rfl (sha_length _) rfl rfl ?_) ?_
                        ·
                          refine ⟨⟨rfl, ⟨rfl, ⟨rfl, ⟨rfl, ⟨rfl, trivial⟩⟩⟩⟩⟩, ?_⟩
                          refine (AH_done (by kernel_rfl) (X_then ?_))
                          refine W_seq ?_
                          refine W.pre (K' := [(0, _), (3, _), (11, _), (14, _), (15, _), (16, _), (68, _), (77, _), (92, _)]) (L' := [(0, _), (182, _), (183, _), (203, _), (500, _), (501, _), (502, _), (551, _)]) ?_ ⟨rfl, ⟨rfl, ⟨rfl, ⟨rfl, ⟨rfl, ⟨rfl, ⟨rfl, ⟨rfl, ⟨rfl, trivial⟩⟩⟩⟩⟩⟩⟩⟩⟩ ⟨rfl, ⟨rfl, ⟨rfl, ⟨rfl, ⟨rfl, ⟨rfl, ⟨rfl, ⟨rfl, trivial⟩⟩⟩⟩⟩⟩⟩⟩
                          refine W_regL (WL_pure rfl rfl (by decide) (Pu_assign rfl rfl) (WL_nil (X_then ?_)))
                          refine W_ret ?_
                          refine X_turn (P' := mapB gm (entsOf [((⟨((sha (pRoot l).pl), (pRoot l).ver, z.2, src, exp), sha_length _, hzo⟩, l) : EB)]) none) 501 rfl (fun h hp => put_turn (e := e0) hk0 hp) ?_
                          refine X_turn (P' := datP [((⟨((sha (pRoot l).pl), (pRoot l).ver, z.2, src, exp), sha_length _, hzo⟩, l) : EB)]) 183 rfl (fun h hp q hq => by rw [List.mem_singleton.1 hq]; exact rowB_rd _ hp) ?_
                          refine X_join [500, 501, 183] 1 (slotP g most (some ⟨(sha (pRoot l).pl), (pRoot l).ver, l, src, exp⟩)) rfl (by decide) (fun h hs => closeS (es := [((⟨((sha (pRoot l).pl), (pRoot l).ver, z.2, src, exp), sha_length _, hzo⟩, l) : EB)]) rfl hs) ?_
                          exact X_ret [1] (Ps := [_]) (res1 Try.results10 rfl) rfl (by decide) ⟨by rw [hset]; try rfl, by rw [hset]; try rfl⟩
                        exact AHs_nil
                  exact AHs_nil
                exact AHs_nil
              exact AHs_nil
        exact AHs_nil
      exact AHs_nil
end Go.Proofs.Ytinamipkpdlphaa
/- Slots: rows of them, in words. -/
namespace Go.Proofs.Ytinamipkpdlphaa
open Go.RowKit
set_option linter.unusedVariables false
set_option linter.unusedSimpArgs false
set_option maxRecDepth 8000

theorem bvs_len (xs : List BV) : ∀ x ∈ xs, (bvC x).length = 36 := fun x _ => bvC_length x
theorem bvs_all {xs : List BV} {k : Nat} (hk : k < xs.length) : ((recC bvC xs).drop (k * 36)).take 36 = bvC (xs.getD k default) := recC_get (d := default) (bvs_len xs) hk
def setSl (v : Value) (hv : v.oneCell' = true) (x : BV) : BV := ⟨(x.key, x.ver, v, x.src, x.exp), x.len, hv⟩
theorem bvs_setData {xs : List BV} {k : Nat} (hk : k < xs.length) (v : Value) (hv : v.oneCell' = true) : (recC bvC xs).set (k * 36 + 33) v = recC bvC (xs.set k (setSl v hv (xs.getD k default))) := by
  have hl := recC_length (bvs_len xs)
  rw [show (recC bvC xs).set (k * 36 + 33) v = over (recC bvC xs) (k * 36 + 33) [v] from (over_one _ _ _ (by rw [hl]; omega)).symm]
  refine recC_setF (d := default) (bvs_len xs) hk (by simp) ?_
  have : over (bvC (xs.getD k default)) 33 [v] = (bvC (xs.getD k default)).set 33 v := over_one _ _ _ (by rw [bvC_length]; decide)
  rw [this]
  exact bk_set_data (xs.getD k default).len v
/-- One slot's bytes put elsewhere. -/
def moveE (k : Nat) (v : Value) (hv : v.oneCell' = true) (ys : List EB) : List EB := ys.set k (setSl v hv (ys.getD k default).1, (ys.getD k default).2)
theorem moveE_len (k : Nat) (v : Value) (hv : v.oneCell' = true) (ys : List EB) : (moveE k v hv ys).length = ys.length := by simp [moveE]
theorem moveE_told {k : Nat} {v : Value} {hv : v.oneCell' = true} {ys : List EB} (hk : k < ys.length) : (moveE k v hv ys).map toS = ys.map toS := by
  unfold moveE
  apply List.ext_getElem?
  intro j
  rw [List.getElem?_map, List.getElem?_map, List.getElem?_set]
  by_cases h : k = j
  · subst h
    rw [if_pos rfl, if_pos hk, show ys.getD k default = ys[k] by simp [hk], List.getElem?_eq_getElem hk]
    rfl
  · rw [if_neg h]
theorem moveE_sl {k : Nat} {v : Value} {hv : v.oneCell' = true} {ys : List EB} (hk : k < ys.length) : (moveE k v hv ys).map (·.1) = (ys.map (·.1)).set k (setSl v hv ((ys.map (·.1)).getD k default)) := by
  unfold moveE
  rw [List.map_set]
  congr 2
  simp [hk]
theorem moveE_drop {k : Nat} {v : Value} {hv : v.oneCell' = true} {ys : List EB} : (moveE k v hv ys).drop (k + 1) = ys.drop (k + 1) := by
  unfold moveE
  rw [List.drop_set]
  simp
theorem moveE_take {k : Nat} {v : Value} {hv : v.oneCell' = true} {ys : List EB} (hk : k < ys.length) : (moveE k v hv ys).take (k + 1) = ys.take k ++ [(setSl v hv (ys.getD k default).1, (ys.getD k default).2)] := by
  have hl : k < (moveE k v hv ys).length := by rw [moveE_len]; exact hk
  rw [List.take_succ_eq_append_getElem hl]
  congr 1
  · unfold moveE; rw [List.take_set, List.set_eq_of_length_le (by rw [List.length_take]; omega)]
  · unfold moveE; simp
theorem getD_map1 {ys : List EB} {k : Nat} (hk : k < ys.length) : (ys.map (·.1)).getD k default = (ys.getD k default).1 := by simp [hk]
theorem getD_of_drop {ys zs : List EB} {k : Nat} (h : zs.drop k = ys.drop k) (hk : k < zs.length) : zs.getD k default = ys.getD k default ∧ k < ys.length := by
  have h0 := congrArg List.length h
  simp only [List.length_drop] at h0
  have h1 : zs[k]? = ys[k]? := by have := congrArg (fun l => l[0]?) h; simpa using this
  have h2 : k < ys.length := by omega
  refine ⟨by simp [List.getD_eq_getElem?_getD, h1], h2⟩
theorem drop_next {ys zs : List EB} {k : Nat} (h : zs.drop k = ys.drop k) : zs.drop (k + 1) = ys.drop (k + 1) := by
  have := congrArg (List.drop 1) h
  simpa [List.drop_drop] using this
theorem small_told {o : Option S1} {es : List EB} (h : es.map toS = o.toList) {xs : List BV} (hp : xs.Perm (es.map (·.1))) : ∃ ys : List EB, ys.Perm es ∧ ys.map (·.1) = xs ∧ ys.map toS = o.toList := by
  have hl := es_len h
  match es, hl with
  | [], _ => exact ⟨[], List.Perm.refl _, (List.Perm.eq_nil hp).symm, h⟩
  | [e], _ => exact ⟨[e], List.Perm.refl _, (List.perm_singleton.1 hp).symm, h⟩
end Go.Proofs.Ytinamipkpdlphaa
/- Slots: all told. -/
namespace Go.Proofs.Ytinamipkpdlphaa
open Go.RowKit
set_option linter.unusedVariables false
set_option linter.unusedSimpArgs false
set_option maxRecDepth 8000

theorem es_data {es : List EB} {o : Option S1} (h : es.map toS = o.toList) (hd : ∀ p, o = some p → p.data.length ≤ 1000000) : ∀ b ∈ es, b.2.length ≤ 1000000 := by
  intro b hb
  cases o with
  | none => rw [es_none h] at hb; simp at hb
  | some p =>
    obtain ⟨e, rfl, he⟩ := es_some h
    simp at hb
    subst hb
    have := hd p rfl
    rw [← he] at this
    exact this
theorem allS_spec (g : Nat) (most : Int) (o : Option S1) (hdat : ∀ p, o = some p → p.data.length ≤ 1000000) (F : HP) : CallsS Try.prog 11 #[.pointer (some ⟨g, 0, none⟩)] F [slotP g most o] (fun r Ps => ∃ zs : List EB, zs.map toS = o.toList ∧ Ps = [slotP g most o, rowB2 r (zs.map (·.1)), datP zs]) := by
  refine callsS_enter Try.func11 rfl Try.ntmps11 (by simp) (fun E => ?_)
  refine W_seq ?_
  refine W.pre (K' := [(0, _)]) (L' := [(0, _), (1, _)]) ?_ ⟨rfl, trivial⟩ ⟨rfl, ⟨rfl, trivial⟩⟩
  refine W_regL (WL_pure rfl rfl (by decide) (Pu_assign rfl rfl) (WL_nil (X_then ?_)))
  refine W_seq ?_
  refine W.pre (K' := [(0, _), (2, _)]) (L' := [(0, _), (1, _)]) ?_ ⟨rfl, ⟨rfl, trivial⟩⟩ ⟨rfl, ⟨rfl, trivial⟩⟩
  refine W_openS 1 200 rfl (fun gm es hes => ?_)
  have hel : (es.map (·.1)).length = es.length := List.length_map _
  have hesl := es_len hes
  refine W_regL (WL_pure rfl rfl (by decide) (Pu_move rfl rfl) (WL_pure rfl rfl (by decide) (Pu_nilCheck rfl rfl) (WL_pure rfl rfl (by decide) (Pu_fieldAddrB (off := 1) rfl rfl (by kernel_rfl)) (WL_pure rfl rfl (by decide) (Pu_loadB (r := 200) rfl Try.isAgg49 rfl rfl rfl) (WL_cons rfl rfl (by decide) (OpT_call 300 [0, 200, 202] [201] rfl Try.call27 rfl rfl rfl (by decide) (by decide) (values_spec gm (es.map (·.1)) _) (fun v10 Ps10 hR10 => ?_)))))))
  obtain ⟨bx, rfl, rfl⟩ := hR10
  skip
  refine (WL_cons rfl rfl (by decide) (OpT_call 400 [0, 200, 202] [300, 301] rfl Try.call26 rfl rfl rfl (by decide) (by decide) (sortedFunc_spec bx gm (es.map (·.1)) (by omega) _) (fun v11 Ps11 hR11 => ?_)))
  obtain ⟨xs, hxp, hxs, rfl⟩ := hR11
  skip
  refine (WL_pure rfl rfl (by decide) (Pu_assign rfl rfl) (WL_nil (X_then ?_)))
  refine W_seq ?_
  refine W_seq ?_
  refine W.pre (K' := [(0, _), (2, _), (3, _)]) (L' := [(0, _), (200, _), (202, _), (400, _), (401, _), (402, _)]) ?_ ⟨rfl, ⟨rfl, ⟨rfl, trivial⟩⟩⟩ ⟨rfl, ⟨rfl, ⟨rfl, ⟨rfl, ⟨rfl, ⟨rfl, trivial⟩⟩⟩⟩⟩⟩
  obtain ⟨ys, hyp, rfl, hyB⟩ := small_told hes hxp
  have hyl := hyp.length_eq
  have hyl2 : (ys.map (·.1)).length = ys.length := List.length_map _
  refine W_regL (WL_pure rfl rfl (by decide) (Pu_move rfl rfl) (WL_pure rfl rfl (by decide) (Pu_len (r := 400) rfl Try.runUnderlying34 rfl rfl (fun h hp => rowP_rd hp)) (WL_pure rfl rfl (by decide) (Pu_move rfl rfl) (WL_nil (X_then ?_)))))
  refine W_block ?_
  refine W_nilRow 290 29 32 ?_
  refine W_turn (P' := datP (ys.take 0)) 290 rfl (fun h hp p hm => by simp at hm) ?_
  refine W_loop (α := Nat × List EB) (fun x => [(3, v11), (12, v11), (13, .int .i64 (ys.length : Int)), (14, .int .i64 (x.1 : Int))]) (fun x => [(0, F), (200, slotB g most gm), (401, mapB gm (entsOf es) none), (202, datP es), (400, rowB2 v11 (x.2.map (fun p : EB => p.1))), (290, datP (x.2.take x.1))]) (fun x => x.2.map toS = o.toList ∧ x.2.drop x.1 = ys.drop x.1 ∧ x.2.length = ys.length ∧ x.1 ≤ ys.length) (fun x => ys.length - x.1) ((0, ys)) ⟨hyB, rfl, rfl, Nat.zero_le _⟩ ⟨rfl, rfl, (by show look _ 13 = some (Value.int .i64 (ys.length : Int)); rw [← hyl2]; rfl), rfl, trivial⟩ ⟨rfl, ⟨rfl, ⟨rfl, ⟨rfl, ⟨rfl, ⟨rfl, trivial⟩⟩⟩⟩⟩⟩ (fun x hx => ?_)
  obtain ⟨hx1, hx2, hx3, hx4⟩ := hx
  have hxl : (x.2.map (fun p : EB => p.1)).length = x.2.length := List.length_map _
  refine W_seq ?_
  refine W.pre (K' := [(3, _), (12, _), (13, _), (14, _)]) (L' := [(0, _), (200, _), (202, _), (290, _), (400, _), (401, _)]) ?_ ⟨rfl, ⟨rfl, ⟨rfl, ⟨rfl, trivial⟩⟩⟩⟩ ⟨rfl, ⟨rfl, ⟨rfl, ⟨rfl, ⟨rfl, ⟨rfl, trivial⟩⟩⟩⟩⟩⟩
  refine W_regL (WL_pure rfl rfl (by decide) (Pu_bin rfl rfl rfl (run_lss _ _ _ _ _ _)) (WL_nil (X_then ?_)))
  refine W_seq ?_
  refine W_cond rfl (fun hc15 => ?_) (fun hc15 => ?_)
  ·
    have hlt : x.1 < x.2.length := by have := of_decide_eq_true hc15; omega
    obtain ⟨hgd, hlt2⟩ := getD_of_drop hx2 hlt
    have hmm : x.2.getD x.1 default ∈ es := hyp.mem_iff.1 (by rw [hgd]; simp [hlt2])
    have hdl : (x.2.getD x.1 default).2.length ≤ 1000000 := es_data hes hdat _ hmm
    refine W_skip (X_then ?_)
    refine W_seq ?_
    refine W_block ?_
    refine W_seq ?_
    refine W.pre (K' := [(3, _), (12, _), (13, _), (14, _), (15, _)]) (L' := [(0, _), (200, _), (202, _), (290, _), (400, _), (401, _)]) ?_ ⟨rfl, ⟨rfl, ⟨rfl, ⟨rfl, ⟨rfl, trivial⟩⟩⟩⟩⟩ ⟨rfl, ⟨rfl, ⟨rfl, ⟨rfl, ⟨rfl, ⟨rfl, trivial⟩⟩⟩⟩⟩⟩
    refine W_regL (WL_pure rfl rfl (by decide) (Pu_move rfl rfl) (WL_pure rfl rfl (by decide) (Pu_idxS (r := 400) rfl Try.runUnderlying34 Try.sizeOf37 rfl rfl rfl (fun h hp => rowP_rd hp) (by omega)) (WL_pure rfl rfl (by decide) (Pu_loadSN (r := 400) rfl Try.isAgg37 Try.sizeOf37 rfl rfl (fun h hp => rowP_rd hp) (bvC_length ((x.2.map (fun p : EB => p.1)).getD x.1 default)) (by decide) (bvs_all (xs := x.2.map (fun p : EB => p.1)) (k := x.1) (by omega))) (WL_cons rfl rfl (by decide) (OpT_alloc (r := 404) (cs := (bkC zeroId 0 (.slice none 0 0) 0 0)) rfl (zero_run (by kernel_rfl : (Try.prog.info? 37).bind (·.zero) = some (.agg (bkC zeroId 0 (.slice none 0 0) 0 0).toArray))) rfl (fun g404 => (WL_pure rfl rfl (by decide) (Pu_assign rfl rfl) (WL_cons0 rfl rfl (OpT_storeAll (r := 404) rfl Try.sizeOf37 rfl rfl rfl (bkC_length rfl) (bvC_length _) (bvC_one _) ?_)))))))))
    refine (WL_nil (X_then ?_))
    refine W.pre (K' := [(3, _), (4, _), (5, _), (12, _), (13, _), (14, _), (15, _)]) (L' := [(0, _), (200, _), (202, _), (290, _), (400, _), (401, _), (404, _)]) ?_ ⟨rfl, ⟨rfl, ⟨rfl, ⟨rfl, ⟨rfl, ⟨rfl, ⟨rfl, trivial⟩⟩⟩⟩⟩⟩⟩ ⟨rfl, ⟨rfl, ⟨rfl, ⟨rfl, ⟨rfl, ⟨rfl, ⟨rfl, trivial⟩⟩⟩⟩⟩⟩⟩
    rw [getD_map1 hlt]
    refine W_regL (WL_pure rfl rfl (by decide) (Pu_move rfl rfl) (WL_pure rfl rfl (by decide) (Pu_move rfl rfl) (WL_pure rfl rfl (by decide) (Pu_fieldAddrB (off := 33) rfl rfl (by kernel_rfl)) (WL_pure rfl rfl (by decide) (Pu_loadB (r := 404) rfl Try.isAgg30 rfl rfl (bk_data (x.2.getD x.1 default).1.len)) (WL_cons rfl rfl (by decide) (OpT_call 500 [0, 200, 202, 290, 400, 401, 404] [] rfl Try.call25 rfl rfl rfl (by decide) (by decide) (clone_spec _ (x.2.getD x.1 default).2 (by omega) _ (rd_star 2 rfl (fun h hp => hp _ hmm))) (fun v23 Ps23 hR23 => ?_)))))))
    obtain ⟨ho23, rfl⟩ := hR23
    skip
    refine (WL_pure rfl rfl (by decide) (Pu_idxS (r := 400) rfl Try.runUnderlying34 Try.sizeOf37 rfl rfl rfl (fun h hp => rowP_rd hp) (by omega)) (WL_pure rfl rfl (by decide) (Pu_fieldAddrE (off := 33) rfl rfl (by kernel_rfl)) (WL_cons0 rfl rfl (OpT_storeS1 (r := 400) rfl Try.sizeOf30 rfl rfl rfl ho23 (by rw [recC_length (bvs_len _)]; omega) (bvs_setData (xs := x.2.map (fun p : EB => p.1)) (k := x.1) (by omega) v23 ho23) ?_))))
    refine (WL_nil (X_block (X_then ?_)))
    refine W.pre (K' := [(3, _), (4, _), (5, _), (12, _), (13, _), (14, _), (15, _)]) (L' := [(0, _), (200, _), (202, _), (290, _), (400, _), (401, _), (404, _), (500, _)]) ?_ ⟨rfl, ⟨rfl, ⟨rfl, ⟨rfl, ⟨rfl, ⟨rfl, ⟨rfl, trivial⟩⟩⟩⟩⟩⟩⟩ ⟨rfl, ⟨rfl, ⟨rfl, ⟨rfl, ⟨rfl, ⟨rfl, ⟨rfl, ⟨rfl, trivial⟩⟩⟩⟩⟩⟩⟩⟩
    refine W_regL (WL_pure rfl rfl (by decide) (Pu_bin rfl rfl rfl (run_add _ _ _ _ _ (by omega))) (WL_pure rfl rfl (by decide) (Pu_move rfl rfl) (WL_nil ?_)))
    have hmt := moveE_told (v := v23) (hv := ho23) hlt
    refine X_join [290, 500] 290 (datP ((moveE x.1 v23 ho23 x.2).take (x.1 + 1))) rfl (by decide) (fun h hs => by rw [moveE_take hlt]; exact datP_add (p := (setSl v23 ho23 (x.2.getD x.1 default).1, (x.2.getD x.1 default).2)) hs) ?_
    refine X_turn (P' := rowB2 v11 ((moveE x.1 v23 ho23 x.2).map (fun p : EB => p.1))) 400 rfl (fun h hp => by rw [moveE_sl hlt]; unfold rowB2; rw [List.length_set]; exact hp) ?_
    exact X_round (x.1 + 1, moveE x.1 v23 ho23 x.2) ⟨by rw [hmt]; exact hx1, by rw [moveE_drop]; exact drop_next hx2, by rw [moveE_len]; exact hx3, by dsimp only; omega⟩ (by show ys.length - (x.1 + 1) < ys.length - x.1; omega) ⟨rfl, rfl, rfl, rfl, trivial⟩ ⟨rfl, rfl, rfl, rfl, rfl, rfl, trivial⟩
  ·
    have hnl : x.1 = ys.length := by have := of_decide_eq_false hc15; omega
    refine W_exit (X_then_exit (X_then_exit (X_block_exit (X_then ?_))))
    refine W_seq ?_
    refine W.pre (K' := [(3, _), (12, _), (13, _), (14, _), (15, _)]) (L' := [(0, _), (200, _), (202, _), (290, _), (400, _), (401, _)]) ?_ ⟨rfl, ⟨rfl, ⟨rfl, ⟨rfl, ⟨rfl, trivial⟩⟩⟩⟩⟩ ⟨rfl, ⟨rfl, ⟨rfl, ⟨rfl, ⟨rfl, ⟨rfl, trivial⟩⟩⟩⟩⟩⟩
    refine W_regL (WL_pure rfl rfl (by decide) (Pu_move rfl rfl) (WL_pure rfl rfl (by decide) (Pu_assign rfl rfl) (WL_nil (X_then ?_))))
    refine W_ret ?_
    rw [hnl, show x.2.take ys.length = x.2 from List.take_of_length_le (by omega)]
    refine X_join [200, 401, 202] 1 (slotP g most o) rfl (by decide) (fun h hs => closeS hes hs) ?_
    exact X_ret [1, 400, 290] (Ps := [_, _, _]) (res1 Try.results11 rfl) rfl (by decide) ⟨x.2, hx1, rfl⟩
end Go.Proofs.Ytinamipkpdlphaa
/- Slots: publishers and what they sign. -/
namespace Go.Proofs.Ytinamipkpdlphaa
open Go.RowKit
set_option linter.unusedVariables false
set_option linter.unusedSimpArgs false
set_option maxRecDepth 8000

section
variable {P : Program} {E : Env} {n : Nat} {K : Slots} {L : Res}
theorem resCC {fn : Func} {t d r g te m t2 d2 r2 g2 te2 m2 : Nat} {cs cs2 : List Value} (hr : fn.results = #[.cell d t, .cell d2 t2]) (hd : look K d = some (.pointer (some ⟨g, 0, none⟩))) (hd2 : look K d2 = some (.pointer (some ⟨g2, 0, none⟩))) (ha : ∀ w, (isAgg t).run P w = .ok true w) (hs : ∀ w, (sizeOf t).run P w = .ok m w) (ha2 : ∀ w, (isAgg t2).run P w = .ok true w) (hs2 : ∀ w, (sizeOf t2).run P w = .ok m2 w) (hL : look L r = some (blk g te cs)) (hL2 : look L r2 = some (blk g2 te2 cs2)) (hm : cs.length = m) (hm2 : cs2.length = m2) :
    ∀ a w, Agr n K a → Sat E L w → (results fn a.tmps).run P w = .ok (.tuple #[.agg cs.toArray, .agg cs2.toArray]) w := fun a w hA hS => by
  have h1 := run_loadVarB hS hL ha hs hm
  have h2 := run_loadVarB hS hL2 ha2 hs2 hm2
  simp [results, hr, hA.2.2 d _ hd, hA.2.2 d2 _ hd2, asAddr, h1, h2]
end
/-- A publisher's seed and name; a root of it. -/
def seedL (who : Int) : List UInt8 := byte who :: List.replicate 31 0
def nameL (who : Int) : List UInt8 := byte who :: List.replicate 15 0
theorem seedL_length (who : Int) : (seedL who).length = 32 := by simp [seedL]
theorem nameL_length (who : Int) : (nameL who).length = 16 := by simp [nameL]
def pubL (who : Int) : List UInt8 := pubT (nameL who) (seedL who)
def sigL (who : Int) (q : Nat) (ver : Int) (node : List UInt8) : List UInt8 := sgnT (nameL who) (seedL who) q (claimL ver node)
def signedL (who : Int) (q : Nat) (ver : Int) (node : List UInt8) : List UInt8 := (rootLs (pubL who) ver node (sigL who q ver node)).flatten
theorem pubL_length (who : Int) : (pubL who).length = 56 := by
  have ht : (topT (nameL who) (seedL who)).length = 32 := topT_length _ _
  unfold pubL pubT
  simp only [List.length_append, numB_length, nameL_length, ht]
theorem sigL_length (who : Int) (q : Nat) (ver : Int) (node : List UInt8) : (sigL who q ver node).length = 4332 := by
  unfold sigL sgnT
  simp only [List.length_append, numB_length, sgnO_length, leafT_length]
section
variable {who : Int} {q : Nat} {ver : Int} {node : List UInt8} (hv : 1 ≤ ver ∧ ver ≤ 2147483647) (hn : node.length = 32)
include hv hn
theorem signed_parse : pRootE (signedL who q ver node) = 0 ∧ pRoot (signedL who q ver node) = ⟨pubL who, ver, node, sigL who q ver node⟩ := parse_root (pubL_length who) hv hn (by rw [sigL_length]; decide)
omit hv in
theorem signed_length : (signedL who q ver node).length = 4427 := by unfold signedL; rw [root_length (pubL_length who) hn, sigL_length]
theorem signed_chk (hq : q < 2) : chkL (signedL who q ver node) = 0 := by
  unfold chkL
  rw [(signed_parse hv hn).2]
  exact checkT_sgn (nameL_length who) hq
theorem signed_key : sha (pRoot (signedL who q ver node)).pl = sha (pubL who) := by rw [(signed_parse hv hn).2]
theorem signed_ver : (pRoot (signedL who q ver node)).ver = ver := by rw [(signed_parse hv hn).2]
theorem signed_new (hq : q < 2) {src exp now : Int} (h : (decide (src < 0) || decide (exp ≤ now)) = false) : setO none (signedL who q ver node) src exp now = (0, some ⟨sha (pubL who), ver, signedL who q ver node, src, exp⟩) := by
  rw [setO_none h (signed_parse hv hn).1 (signed_chk hv hn hq), signed_key hv hn, signed_ver hv hn]
end
theorem set_nil : setO none [] 0 1 0 = (8, none) := by rw [setO_cut (by decide) (by decide)]; rfl
theorem seed_spec (who : Int) (F : HP) : CallsS Try.prog 16 #[.int .i64 who] F [] (fun r Ps => r = .tuple #[idV (seedL who), idV (nameL who)] ∧ Ps = []) := by
  refine callsS_enter Try.func16 rfl Try.ntmps16 (by simp) (fun E => ?_)
  refine W_seq ?_
  refine W.pre (K' := [(0, _)]) (L' := [(0, _)]) ?_ ⟨rfl, trivial⟩ ⟨rfl, trivial⟩
  refine W_regL (WL_cons rfl rfl (by decide) (OpT_alloc (r := 101) (cs := (bs zeroId)) rfl (zero_run (by kernel_rfl : (Try.prog.info? 29).bind (·.zero) = some (.agg (bs zeroId).toArray))) rfl (fun g101 => (WL_cons rfl rfl (by decide) (OpT_alloc (r := 102) (cs := (bs (List.replicate 16 0))) rfl (zero_run (by kernel_rfl : (Try.prog.info? 52).bind (·.zero) = some (.agg (bs (List.replicate 16 0)).toArray))) rfl (fun g102 => (WL_nil (X_then ?_))))))))
  refine W_seq ?_
  refine W.pre (K' := [(0, _), (2, _), (3, _)]) (L' := [(0, _), (101, _), (102, _)]) ?_ ⟨rfl, ⟨rfl, ⟨rfl, trivial⟩⟩⟩ ⟨rfl, ⟨rfl, ⟨rfl, trivial⟩⟩⟩
  refine W_regL (WL_cons rfl rfl (by decide) (OpT_alloc (r := 103) (cs := (bs zeroId)) rfl (zero_run (by kernel_rfl : (Try.prog.info? 29).bind (·.zero) = some (.agg (bs zeroId).toArray))) rfl (fun g103 => (WL_nil (X_then ?_)))))
  refine W_seq ?_
  refine W.pre (K' := [(0, _), (2, _), (3, _), (4, _)]) (L' := [(0, _), (101, _), (102, _), (103, _)]) ?_ ⟨rfl, ⟨rfl, ⟨rfl, ⟨rfl, trivial⟩⟩⟩⟩ ⟨rfl, ⟨rfl, ⟨rfl, ⟨rfl, trivial⟩⟩⟩⟩
  refine W_regL (WL_cons rfl rfl (by decide) (OpT_alloc (r := 104) (cs := (bs (List.replicate 16 0))) rfl (zero_run (by kernel_rfl : (Try.prog.info? 52).bind (·.zero) = some (.agg (bs (List.replicate 16 0)).toArray))) rfl (fun g104 => (WL_nil (X_then ?_)))))
  refine W_seq ?_
  refine W.pre (K' := [(0, _), (2, _), (3, _), (4, _), (5, _)]) (L' := [(0, _), (101, _), (102, _), (103, _), (104, _)]) ?_ ⟨rfl, ⟨rfl, ⟨rfl, ⟨rfl, ⟨rfl, trivial⟩⟩⟩⟩⟩ ⟨rfl, ⟨rfl, ⟨rfl, ⟨rfl, ⟨rfl, trivial⟩⟩⟩⟩⟩
  refine W_regL (WL_pure rfl rfl (by decide) (Pu_move rfl rfl) (WL_pure rfl rfl (by decide) (Pu_conv rfl rfl (conv_byte _ _ Try.runUnderlying3 Try.runUnderlying5)) (WL_pure rfl rfl (by decide) (Pu_move rfl rfl) (WL_pure rfl rfl (by decide) (Pu_conv rfl rfl (conv_byte _ _ Try.runUnderlying3 Try.runUnderlying5)) (WL_pure rfl rfl (by decide) (Pu_idxA rfl Try.runUnderlying29 Try.sizeOf5 rfl rfl (by decide)) (WL_cons0 rfl rfl (OpT_storeB1 (r := 103) rfl Try.sizeOf5 rfl rfl rfl rfl (by rw [bs_length]; decide) (show _ = bs (seedL who) from rfl) ?_)))))))
  refine (WL_pure rfl rfl (by decide) (Pu_idxA rfl Try.runUnderlying52 Try.sizeOf5 rfl rfl (by decide)) (WL_cons0 rfl rfl (OpT_storeB1 (r := 104) rfl Try.sizeOf5 rfl rfl rfl rfl (by rw [bs_length]; decide) (show _ = bs (nameL who) from rfl) ?_)))
  refine (WL_nil (X_then ?_))
  refine W_seq ?_
  refine W.pre (K' := [(0, _), (2, _), (3, _), (4, _), (5, _)]) (L' := [(0, _), (101, _), (102, _), (103, _), (104, _)]) ?_ ⟨rfl, ⟨rfl, ⟨rfl, ⟨rfl, ⟨rfl, trivial⟩⟩⟩⟩⟩ ⟨rfl, ⟨rfl, ⟨rfl, ⟨rfl, ⟨rfl, trivial⟩⟩⟩⟩⟩
  refine W_draw (N := 4) (by kernel_rfl) rfl [(0, _), (103, _), (104, _)] ⟨rfl, ⟨rfl, ⟨rfl, trivial⟩⟩⟩ ?_
  refine (AH_take 0 rfl (by kernel_rfl) (by kernel_rfl) (by kernel_rfl) rfl rfl (by decide) (Pu_loadBN (r := 103) rfl Try.isAgg29 Try.sizeOf29 rfl rfl ((bs_length _).trans (seedL_length who)) (load_all ((bs_length _).trans (seedL_length who)))) (AH_take 1 rfl (by kernel_rfl) (by kernel_rfl) (by kernel_rfl) rfl rfl (by decide) (Pu_loadBN (r := 104) rfl Try.isAgg52 Try.sizeOf52 rfl rfl ((bs_length _).trans (nameL_length who)) (load_all ((bs_length _).trans (nameL_length who)))) (AH_ready [2] (by kernel_rfl) (by decide) ?_)))
  refine AHs_cons0 rfl rfl rfl (OpT_storeAll (r := 101) rfl Try.sizeOf29 rfl rfl rfl rfl ((bs_length _).trans (seedL_length who)) (bs_one _) ?_) ?_
  ·
    refine ⟨⟨rfl, ⟨rfl, ⟨rfl, trivial⟩⟩⟩, ?_⟩
    refine (AH_ready [3] (by kernel_rfl) (by decide) ?_)
    refine AHs_cons0 rfl rfl rfl (OpT_storeAll (r := 102) rfl Try.sizeOf52 rfl rfl rfl rfl ((bs_length _).trans (nameL_length who)) (bs_one _) ?_) ?_
    ·
      refine ⟨⟨rfl, ⟨rfl, ⟨rfl, trivial⟩⟩⟩, ?_⟩
      refine (AH_done (by kernel_rfl) (X_then ?_))
      refine W_ret ?_
      exact X_ret [] (Ps := []) (resCC (r := 101) (r2 := 102) Try.results16 rfl rfl Try.isAgg29 Try.sizeOf29 Try.isAgg52 Try.sizeOf52 rfl rfl ((bs_length _).trans (seedL_length who)) ((bs_length _).trans (nameL_length who))) rfl (by decide) ⟨rfl, rfl⟩
    exact AHs_nil
  exact AHs_nil
theorem root_build4 {pv : Value} {ver : Int} {top : List UInt8} {tv : Value} (ht : top.length = 32) : Value.agg ((over (((rootC nilS 0 zeroId nilS).set 0 pv).set 1 (.int .i64 ver)) 2 (bs top)).set 34 tv).toArray = rootV pv ver top tv := by
  have h := root_over (pv := pv) (ver := ver) (tv := nilS) zeroId_length ht
  unfold rootV
  rw [← root_set (tv := nilS) ht, ← h]
  rfl
theorem signed_spec (who ver : Int) (q : Nat) (hq : q < 2) (hv : ver = (q : Int) + 1) (node : List UInt8) (hn : node.length = 32) (F : HP) : CallsS Try.prog 8 #[.int .i64 who, .int .i64 ver, idV node] F [] (fun r Ps => Ps = [rowB 5 r (signedL who q ver node)]) := by
  refine callsS_enter Try.func8 rfl Try.ntmps8 (by simp) (fun E => ?_)
  refine W_seq ?_
  refine W.pre (K' := [(0, _), (1, _), (2, _)]) (L' := [(0, _)]) ?_ ⟨rfl, ⟨rfl, ⟨rfl, trivial⟩⟩⟩ ⟨rfl, trivial⟩
  refine W_regL (WL_cons rfl rfl (by decide) (OpT_box (r := 101) rfl rfl rfl (fun g101 => (WL_pure rfl rfl (by decide) (Pu_assign rfl rfl) (WL_nil (X_then ?_))))))
  refine W_seq ?_
  refine W.pre (K' := [(0, _), (1, _), (2, _), (5, _), (6, _)]) (L' := [(0, _), (101, _)]) ?_ ⟨rfl, ⟨rfl, ⟨rfl, ⟨rfl, ⟨rfl, trivial⟩⟩⟩⟩⟩ ⟨rfl, ⟨rfl, trivial⟩⟩
  refine W_regL (WL_pure rfl rfl (by decide) (Pu_move rfl rfl) (WL_cons rfl rfl (by decide) (OpT_call 200 [0, 101] [] rfl Try.call16 rfl rfl rfl (by decide) (by decide) (seed_spec who _) (fun v17 Ps17 hR17 => ?_))))
  obtain ⟨rfl, rfl⟩ := hR17
  refine (WL_pure rfl rfl (by decide) (Pu_move rfl rfl) (WL_pure rfl rfl (by decide) (Pu_extract rfl rfl rfl) (WL_pure rfl rfl (by decide) (Pu_extract rfl rfl rfl) (WL_cons rfl rfl (by decide) (OpT_alloc (r := 201) (cs := (bs zeroId)) rfl (zero_run (by kernel_rfl : (Try.prog.info? 29).bind (·.zero) = some (.agg (bs zeroId).toArray))) rfl (fun g201 => (WL_cons rfl rfl (by decide) (OpT_alloc (r := 202) (cs := (bs (List.replicate 16 0))) rfl (zero_run (by kernel_rfl : (Try.prog.info? 52).bind (·.zero) = some (.agg (bs (List.replicate 16 0)).toArray))) rfl (fun g202 => (WL_cons0 rfl rfl (OpT_storeAll (r := 201) rfl Try.sizeOf29 rfl rfl rfl rfl ((bs_length _).trans (seedL_length who)) (bs_one _) ?_)))))))))))
  refine (WL_cons0 rfl rfl (OpT_storeAll (r := 202) rfl Try.sizeOf52 rfl rfl rfl rfl ((bs_length _).trans (nameL_length who)) (bs_one _) ?_))
  refine (WL_nil (X_then ?_))
  refine W_seq ?_
  refine W.pre (K' := [(0, _), (1, _), (2, _), (5, _), (6, _), (7, _), (8, _)]) (L' := [(0, _), (101, _), (201, _), (202, _)]) ?_ ⟨rfl, ⟨rfl, ⟨rfl, ⟨rfl, ⟨rfl, ⟨rfl, ⟨rfl, trivial⟩⟩⟩⟩⟩⟩⟩ ⟨rfl, ⟨rfl, ⟨rfl, ⟨rfl, trivial⟩⟩⟩⟩
  refine W_regL (WL_pure rfl rfl (by decide) (Pu_loadBN (r := 202) rfl Try.isAgg52 Try.sizeOf52 rfl rfl ((bs_length _).trans (nameL_length who)) (load_all ((bs_length _).trans (nameL_length who)))) (WL_pure rfl rfl (by decide) (Pu_loadBN (r := 201) rfl Try.isAgg29 Try.sizeOf29 rfl rfl ((bs_length _).trans (seedL_length who)) (load_all ((bs_length _).trans (seedL_length who)))) (WL_cons rfl rfl (by decide) (OpT_call 300 [0, 101, 201, 202] [] rfl Try.call17 rfl rfl rfl (by decide) (by decide) (public6_spec (nameL who) (nameL_length who) (seedL who) (seedL_length who) _) (fun v23 Ps23 hR23 => ?_)))))
  obtain ⟨pv, rfl, rfl⟩ := hR23
  refine (WL_pure rfl rfl (by decide) (Pu_move rfl rfl) (WL_pure rfl rfl (by decide) (Pu_extract rfl rfl rfl) (WL_pure rfl rfl (by decide) (Pu_extract rfl rfl rfl) (WL_pure rfl rfl (by decide) (Pu_assign rfl rfl) (WL_pure rfl rfl (by decide) (Pu_assign rfl rfl) (WL_nil (X_then ?_)))))))
  refine W_seq ?_
  refine W.pre (K' := [(0, _), (1, _), (2, _), (5, _), (6, _), (7, _), (8, _), (9, _)]) (L' := [(0, _), (101, _), (201, _), (202, _), (300, _)]) ?_ ⟨rfl, ⟨rfl, ⟨rfl, ⟨rfl, ⟨rfl, ⟨rfl, ⟨rfl, ⟨rfl, trivial⟩⟩⟩⟩⟩⟩⟩⟩ ⟨rfl, ⟨rfl, ⟨rfl, ⟨rfl, ⟨rfl, trivial⟩⟩⟩⟩⟩
  refine W_draw (N := 13) (by kernel_rfl) rfl [(0, _), (101, _), (201, _), (202, _)] ⟨rfl, ⟨rfl, ⟨rfl, ⟨rfl, trivial⟩⟩⟩⟩ ?_
  refine (AH_take 0 rfl (by kernel_rfl) (by kernel_rfl) (by kernel_rfl) rfl rfl (by decide) (Pu_loadBN (r := 202) rfl Try.isAgg52 Try.sizeOf52 rfl rfl ((bs_length _).trans (nameL_length who)) (load_all ((bs_length _).trans (nameL_length who)))) (AH_take 1 rfl (by kernel_rfl) (by kernel_rfl) (by kernel_rfl) rfl rfl (by decide) (Pu_loadBN (r := 201) rfl Try.isAgg29 Try.sizeOf29 rfl rfl ((bs_length _).trans (seedL_length who)) (load_all ((bs_length _).trans (seedL_length who)))) (AH_take 2 rfl (by kernel_rfl) (by kernel_rfl) (by kernel_rfl) rfl rfl (by decide) (Pu_move rfl rfl) (AH_take 3 rfl (by kernel_rfl) (by kernel_rfl) (by kernel_rfl) rfl rfl (by decide) (Pu_bin rfl rfl rfl (run_sub _ _ _ _ _ (by omega))) ?_))))
  rw [show ver - 1 = (q : Int) by omega]
  refine (AH_take 4 rfl (by kernel_rfl) (by kernel_rfl) (by kernel_rfl) rfl rfl (by decide) (Pu_move rfl rfl) (AH_take 5 rfl (by kernel_rfl) (by kernel_rfl) (by kernel_rfl) rfl rfl (by decide) (Pu_loadBN (r := 101) rfl Try.isAgg29 Try.sizeOf29 rfl rfl ((bs_length _).trans hn) (load_all ((bs_length _).trans hn))) (AH_ready [6] (by kernel_rfl) (by decide) ?_)))
  refine AHs_cons rfl rfl rfl (by decide) (OpT_call 400 [0, 101, 201, 202, 300] [] rfl Try.call19 rfl rfl rfl (by decide) (by decide) (claim9_spec ver node hn _) (fun v33 Ps33 hR33 => ?_)) ?_
  ·
    subst hR33
    refine ⟨⟨rfl, ⟨rfl, ⟨rfl, ⟨rfl, trivial⟩⟩⟩⟩, ?_⟩
    refine (AH_ready [7] (by kernel_rfl) (by decide) ?_)
    refine AHs_cons rfl rfl rfl (by decide) (OpT_call 500 [0, 101, 201, 202, 300, 400] [] rfl Try.call18 rfl rfl rfl (by decide) (by decide) (sign6_spec (nameL who) (nameL_length who) (seedL who) (seedL_length who) q hq _ (claimL ver node) (by rw [claimL_length hn]; decide) _ (rd_star 5 rfl rowB_rd)) (fun v34 Ps34 hR34 => ?_)) ?_
    ·
      obtain ⟨gv, rfl, rfl⟩ := hR34
      refine ⟨⟨rfl, ⟨rfl, ⟨rfl, ⟨rfl, trivial⟩⟩⟩⟩, ?_⟩
      refine (AH_take 8 rfl (by kernel_rfl) (by kernel_rfl) (by kernel_rfl) rfl rfl (by decide) (Pu_move rfl rfl) (AH_take 9 rfl (by kernel_rfl) (by kernel_rfl) (by kernel_rfl) rfl rfl (by decide) (Pu_extract rfl rfl rfl) (AH_take 10 rfl (by kernel_rfl) (by kernel_rfl) (by kernel_rfl) rfl rfl (by decide) (Pu_extract rfl rfl rfl) (AH_take 11 rfl (by kernel_rfl) (by kernel_rfl) (by kernel_rfl) rfl rfl (by decide) (Pu_assign rfl rfl) (AH_take 12 rfl (by kernel_rfl) (by kernel_rfl) (by kernel_rfl) rfl rfl (by decide) (Pu_assign rfl rfl) (AH_done (by kernel_rfl) (X_then ?_)))))))
      refine W_seq ?_
      refine W.pre (K' := [(0, _), (1, _), (2, _), (5, _), (6, _), (7, _), (8, _), (9, _), (11, _)]) (L' := [(0, _), (101, _), (201, _), (202, _), (300, _), (400, _), (500, _)]) ?_ ⟨rfl, ⟨rfl, ⟨rfl, ⟨rfl, ⟨rfl, ⟨rfl, ⟨rfl, ⟨rfl, ⟨rfl, trivial⟩⟩⟩⟩⟩⟩⟩⟩⟩ ⟨rfl, ⟨rfl, ⟨rfl, ⟨rfl, ⟨rfl, ⟨rfl, ⟨rfl, trivial⟩⟩⟩⟩⟩⟩⟩
      refine W_fact (r := 300) rfl (fun h hp => rd_one (rowB_rd _ hp)) (fun hpo => ?_)
      refine W_fact (r := 500) rfl (fun h hp => rd_one (rowB_rd _ hp)) (fun hgo => ?_)
      refine W_regL (WL_pure rfl rfl (by decide) (Pu_move rfl rfl) (WL_pure rfl rfl (by decide) (Pu_move rfl rfl) (WL_pure rfl rfl (by decide) (Pu_loadBN (r := 101) rfl Try.isAgg29 Try.sizeOf29 rfl rfl ((bs_length _).trans hn) (load_all ((bs_length _).trans hn))) (WL_pure rfl rfl (by decide) (Pu_move rfl rfl) (WL_pure rfl rfl (by decide) (Pu_build (V := rootV pv ver node gv) [(0, 1), (1, 1), (2, 32), (34, 1)] (rootC nilS 0 zeroId nilS) rfl rfl (by kernel_rfl) (by kernel_rfl) (.one rfl hpo (by simp [rootC, bs_length, zeroId_length]) rfl (.one rfl rfl (by simp [rootC, bs_length, zeroId_length]) rfl (.many rfl ((bs_length _).trans hn) (by simp [rootC, bs_length, zeroId_length]) rfl (.one rfl hgo (by rw [over_length _ _ _ (by simp [rootC, bs_length, hn, zeroId_length])]; simp [rootC, bs_length, zeroId_length]) rfl (.nil _))))) (root_build4 hn)) (WL_cons rfl rfl (by decide) (OpT_call 600 [0, 101, 201, 202, 300, 400, 500] [] rfl Try.call15 rfl rfl rfl (by decide) (by decide) (root9_spec pv (pubL who) ver node hn gv (sigL who q ver node) (by rw [pubL_length]; decide) (by rw [sigL_length]; decide) _ (rd_star 4 rfl rowB_rd) (rd_star 6 rfl rowB_rd)) (fun v43 Ps43 hR43 => ?_))))))))
      obtain ⟨rv, rfl, rfl⟩ := hR43
      refine (WL_pure rfl rfl (by decide) (Pu_move rfl rfl) (WL_pure rfl rfl (by decide) (Pu_extract rfl rfl rfl) (WL_pure rfl rfl (by decide) (Pu_extract rfl rfl rfl) (WL_pure rfl rfl (by decide) (Pu_assign rfl rfl) (WL_pure rfl rfl (by decide) (Pu_assign rfl rfl) (WL_nil (X_then ?_)))))))
      refine W_seq ?_
      refine W.pre (K' := [(0, _), (1, _), (2, _), (5, _), (6, _), (7, _), (8, _), (9, _), (11, _), (13, _)]) (L' := [(0, _), (101, _), (201, _), (202, _), (300, _), (400, _), (500, _), (600, _)]) ?_ ⟨rfl, ⟨rfl, ⟨rfl, ⟨rfl, ⟨rfl, ⟨rfl, ⟨rfl, ⟨rfl, ⟨rfl, ⟨rfl, trivial⟩⟩⟩⟩⟩⟩⟩⟩⟩⟩ ⟨rfl, ⟨rfl, ⟨rfl, ⟨rfl, ⟨rfl, ⟨rfl, ⟨rfl, ⟨rfl, trivial⟩⟩⟩⟩⟩⟩⟩⟩
      refine W_regL (WL_pure rfl rfl (by decide) (Pu_move rfl rfl) (WL_pure rfl rfl (by decide) (Pu_assign rfl rfl) (WL_nil (X_then ?_))))
      refine W_ret ?_
      have hE : rootE (pubL who) ver (sigL who q ver node) = 0 := by unfold rootE; rw [if_neg (by rw [pubL_length]; omega), if_neg (by rw [sigL_length]; decide)]
      exact X_ret [600] (Ps := [_]) (res1 Try.results8 rfl) rfl (by decide) (by unfold rootR; rw [if_pos hE]; rfl)
    exact AHs_nil
  exact AHs_nil
theorem known_spec (F : HP) : CallsS Try.prog 6 #[] F [] (fun v Ps => v = .bool true ∧ Ps = []) := by
  refine callsS_enter Try.func6 rfl Try.ntmps6 (by simp) (fun E => ?_)
  refine W_seq ?_
  refine W_regL (WL_pure rfl rfl (by decide) (Pu_assign rfl rfl) (WL_nil (X_then ?_)))
  refine W_seq ?_
  refine W.pre (K' := [(0, _)]) (L' := [(0, _)]) ?_ ⟨rfl, trivial⟩ ⟨rfl, trivial⟩
  refine W_regL (WL_cons rfl rfl (by decide) (OpT_call 200 [0] [] rfl Try.call7 rfl rfl rfl (by decide) (by decide) (newS_spec 2 (by decide) _) (fun v5 Ps5 hR5 => ?_)))
  obtain ⟨gs, rfl, rfl⟩ := hR5
  skip
  refine (WL_pure rfl rfl (by decide) (Pu_move rfl rfl) (WL_pure rfl rfl (by decide) (Pu_extract rfl rfl rfl) (WL_pure rfl rfl (by decide) (Pu_extract rfl rfl rfl) (WL_pure rfl rfl (by decide) (Pu_assign rfl rfl) (WL_pure rfl rfl (by decide) (Pu_assign rfl rfl) (WL_nil (X_then ?_)))))))
  refine W_seq ?_
  refine W_seq ?_
  refine W.pre (K' := [(0, _), (1, _), (2, _)]) (L' := [(0, _), (200, _)]) ?_ ⟨rfl, ⟨rfl, ⟨rfl, trivial⟩⟩⟩ ⟨rfl, ⟨rfl, trivial⟩⟩
  refine W_regL (WL_pure rfl rfl (by decide) (Pu_move rfl rfl) (WL_pure rfl rfl (by decide) (Pu_bin rfl rfl rfl (run_neq _ _ _ _ _ _)) (WL_pure rfl rfl (by decide) (Pu_move rfl rfl) (WL_guardP rfl rfl rfl rfl (by decide) (fun hb => (Pu_move rfl rfl)) (WL_guardP rfl rfl rfl rfl (by decide) (fun hb => (Pu_bin rfl (ev_gv rfl hb) rfl (run_ptrNil Try.underlying24 _ _ _))) (WL_pure rfl rfl (by decide) (Pu_or rfl rfl rfl) (WL_nil (X_then ?_))))))))
  refine W_false rfl (rfl) ?_
  refine W_skip (X_then ?_)
  refine W_seq ?_
  refine W.pre (K' := [(0, _), (1, _), (2, _), (13, _)]) (L' := [(0, _), (200, _)]) ?_ ⟨rfl, ⟨rfl, ⟨rfl, ⟨rfl, trivial⟩⟩⟩⟩ ⟨rfl, ⟨rfl, trivial⟩⟩
  refine W_regL (WL_pure rfl rfl (by decide) (Pu_idZero rfl) (WL_cons rfl rfl (by decide) (OpT_call 300 [0, 200] [] rfl Try.call8 rfl rfl rfl (by decide) (by decide) (signed_spec 0 1 0 (by decide) (by decide) zeroId zeroId_length _) (fun v15 Ps15 hR15 => ?_))))
  subst hR15
  refine (WL_pure rfl rfl (by decide) (Pu_assign rfl rfl) (WL_nil (X_then ?_)))
  refine W_seq ?_
  refine W.pre (K' := [(0, _), (1, _), (2, _), (3, _), (13, _)]) (L' := [(0, _), (200, _), (300, _)]) ?_ ⟨rfl, ⟨rfl, ⟨rfl, ⟨rfl, ⟨rfl, trivial⟩⟩⟩⟩⟩ ⟨rfl, ⟨rfl, ⟨rfl, trivial⟩⟩⟩
  have hs2 := signed_new (who := 0) (q := 0) (ver := 1) (node := zeroId) (by decide) zeroId_length (by decide) (src := 0) (exp := 9) (now := 0) (by decide)
  refine W_regL (WL_pure rfl rfl (by decide) (Pu_move rfl rfl) (WL_cons rfl rfl (by decide) (OpT_call 400 [0, 300] [200] rfl Try.call10 rfl rfl rfl (by decide) (by decide) (setS_none gs 2 (by decide) _ [] (by decide) 0 1 0 _ (fun h _ => rd_const 0 1 h)) (fun v17 Ps17 hR17 => ?_))))
  obtain ⟨rfl, rfl⟩ := hR17
  skip
  rw [set_nil]
  refine (WL_pure rfl rfl (by decide) (Pu_bin rfl rfl rfl (run_eql _ _ _ _ _ _)) (WL_pure rfl rfl (by decide) (Pu_move rfl rfl) (WL_gPT rfl rfl rfl rfl rfl (by decide) (Pu_move rfl rfl) (WL_gPT rfl rfl rfl rfl rfl (by decide) (Pu_move rfl rfl) (WL_gT rfl rfl rfl rfl rfl (by decide) (OpT_call 500 [0, 300] [400] rfl Try.call10 rfl rfl rfl (by decide) (by decide) (setS_none gs 2 (by decide) _ (signedL 0 0 1 zeroId) (by rw [signed_length zeroId_length]; decide) 0 9 0 _ (rd_star 1 rfl rowB_rd)) (fun v22 Ps22 hR22 => ?_)))))))
  obtain ⟨rfl, rfl⟩ := hR22
  skip
  rw [hs2]
  refine (WL_gPT rfl rfl rfl rfl rfl (by decide) (Pu_bin rfl rfl rfl (run_eql _ _ _ _ _ _)) (WL_pure rfl rfl (by decide) (Pu_pickT rfl rfl rfl rfl) (WL_pure rfl rfl (by decide) (Pu_move rfl rfl) (WL_gPT rfl rfl rfl rfl rfl (by decide) (Pu_move rfl rfl) (WL_gT rfl rfl rfl rfl rfl (by decide) (OpT_call 600 [0, 300] [500] rfl Try.call11 rfl rfl rfl (by decide) (by decide) (allS_spec gs 2 _ (fun p h => by injection h with h; subst h; show (signedL 0 0 1 zeroId).length ≤ _; rw [signed_length zeroId_length]; decide) _) (fun v27 Ps27 hR27 => ?_)))))))
  obtain ⟨zs, hzs, rfl⟩ := hR27
  obtain ⟨z0, rfl, hz0⟩ := es_some hzs
  refine (WL_gPT rfl rfl rfl rfl rfl (by decide) (Pu_len (r := 601) rfl Try.runUnderlying34 rfl rfl (fun h hp => rowP_rd hp)) (WL_gPT rfl rfl rfl rfl rfl (by decide) (Pu_bin rfl rfl rfl (run_eql _ _ _ _ _ _)) (WL_pure rfl rfl (by decide) (Pu_pickT rfl rfl rfl rfl) (WL_pure rfl rfl (by decide) (Pu_assign rfl rfl) (WL_nil (X_then ?_))))))
  refine W_ret ?_
  exact X_ret [] (Ps := []) (res1 Try.results6 rfl) rfl (by decide) ⟨rfl, rfl⟩
theorem within13_spec (a n : Int) (hn : 0 < n) (hn2 : n < 9223372036854775808) (F : HP) : CallsS Try.prog 9 #[.int .i64 a, .int .i64 n] F [] (fun v Ps => v = .int .i64 (a % n) ∧ Ps = []) := by
  have htb := tmod_bounds a hn
  refine callsS_enter Try.func9 rfl Try.ntmps9 (by simp) (fun E => ?_)
  refine W_seq ?_
  refine W.pre (K' := [(0, _), (1, _)]) (L' := [(0, _)]) ?_ ⟨rfl, ⟨rfl, trivial⟩⟩ ⟨rfl, trivial⟩
  refine W_regL (WL_pure rfl rfl (by decide) (Pu_assign rfl rfl) (WL_nil (X_then ?_)))
  refine W_seq ?_
  refine W.pre (K' := [(0, _), (1, _), (4, _)]) (L' := [(0, _)]) ?_ ⟨rfl, ⟨rfl, ⟨rfl, trivial⟩⟩⟩ ⟨rfl, trivial⟩
  refine W_regL (WL_pure rfl rfl (by decide) (Pu_move rfl rfl) (WL_pure rfl rfl (by decide) (Pu_move rfl rfl) (WL_pure rfl rfl (by decide) (Pu_bin rfl rfl rfl (run_tmod _ _ _ _ _ (by omega))) (WL_pure rfl rfl (by decide) (Pu_assign rfl rfl) (WL_nil (X_then ?_))))))
  refine W_seq ?_
  refine W_seq ?_
  refine W.pre (K' := [(0, _), (1, _), (4, _), (5, _)]) (L' := [(0, _)]) ?_ ⟨rfl, ⟨rfl, ⟨rfl, ⟨rfl, trivial⟩⟩⟩⟩ ⟨rfl, trivial⟩
  refine W_regL (WL_pure rfl rfl (by decide) (Pu_move rfl rfl) (WL_pure rfl rfl (by decide) (Pu_bin rfl rfl rfl (run_lss _ _ _ _ _ _)) (WL_nil (X_then ?_))))
  refine W_cond rfl (fun hc10 => ?_) (fun hc10 => ?_)
  ·
    have hlt := of_decide_eq_true hc10
    refine W.pre (K' := [(0, _), (1, _), (4, _), (5, _), (10, _)]) (L' := [(0, _)]) ?_ ⟨rfl, ⟨rfl, ⟨rfl, ⟨rfl, ⟨rfl, trivial⟩⟩⟩⟩⟩ ⟨rfl, trivial⟩
    refine W_regL (WL_pure rfl rfl (by decide) (Pu_move rfl rfl) (WL_pure rfl rfl (by decide) (Pu_move rfl rfl) (WL_pure rfl rfl (by decide) (Pu_bin rfl rfl rfl (run_add _ _ _ _ _ (by omega))) (WL_pure rfl rfl (by decide) (Pu_assign rfl rfl) (WL_nil (X_then ?_))))))
    refine W_seq ?_
    refine W.pre (K' := [(0, _), (1, _), (4, _), (5, _), (10, _)]) (L' := [(0, _)]) ?_ ⟨rfl, ⟨rfl, ⟨rfl, ⟨rfl, ⟨rfl, trivial⟩⟩⟩⟩⟩ ⟨rfl, trivial⟩
    refine W_regL (WL_pure rfl rfl (by decide) (Pu_move rfl rfl) (WL_pure rfl rfl (by decide) (Pu_assign rfl rfl) (WL_nil (X_then ?_))))
    refine W_ret ?_
    exact X_ret [] (Ps := []) (res1 Try.results9 rfl) rfl (by decide) ⟨int_val (emod_neg hn (of_decide_eq_true hc10)), rfl⟩
  ·
    refine W_skip (X_then ?_)
    refine W_seq ?_
    refine W.pre (K' := [(0, _), (1, _), (4, _), (5, _), (10, _)]) (L' := [(0, _)]) ?_ ⟨rfl, ⟨rfl, ⟨rfl, ⟨rfl, ⟨rfl, trivial⟩⟩⟩⟩⟩ ⟨rfl, trivial⟩
    refine W_regL (WL_pure rfl rfl (by decide) (Pu_move rfl rfl) (WL_pure rfl rfl (by decide) (Pu_assign rfl rfl) (WL_nil (X_then ?_))))
    refine W_ret ?_
    exact X_ret [] (Ps := []) (res1 Try.results9 rfl) rfl (by decide) ⟨int_val (emod_pos hn (of_decide_eq_false hc10)), rfl⟩
end Go.Proofs.Ytinamipkpdlphaa
/- Slots: a root of the same version, and a newer one. -/
namespace Go.Proofs.Ytinamipkpdlphaa
open Go.RowKit
set_option linter.unusedVariables false
set_option linter.unusedSimpArgs false
set_option maxRecDepth 8000

theorem bvs_get {xs : List BV} {k j : Nat} (hk : k < xs.length) (hj : j < 36) : (recC bvC xs)[k * 36 + j]? = (bvC (xs.getD k default))[j]? := recC_at (bvs_len xs) hk hj
theorem one_get (z : EB) {j : Nat} (hj : j < 36) : (recC bvC ([z].map (fun p : EB => p.1)))[0 * 36 + j]? = (bvC z.1)[j]? := bvs_get (xs := [z].map (fun p : EB => p.1)) (k := 0) (by simp) hj
def idOf (a : UInt8) : List UInt8 := a :: List.replicate 31 0
theorem idOf_length (a : UInt8) : (idOf a).length = 32 := by simp [idOf]
section
variable {who : Int} {q : Nat} {ver : Int} {node : List UInt8} {p : S1} {src exp now : Int} (hv : 1 ≤ ver ∧ ver ≤ 2147483647) (hn : node.length = 32) (hq : q < 2) (h : (decide (src < 0) || decide (exp ≤ now)) = false)
include hv hn hq h
theorem signed_same (hp : p.ver = ver) : setO (some p) (signedL who q ver node) src exp now = (0, some ⟨p.key, p.ver, p.data, p.src, max p.exp exp⟩) :=
  setO_same h (signed_parse hv hn).1 (signed_chk hv hn hq) (by rw [signed_ver hv hn]; omega) (by rw [signed_ver hv hn]; exact hp)
theorem signed_newer (hp : p.ver < ver) : setO (some p) (signedL who q ver node) src exp now = (0, some ⟨sha (pubL who), ver, signedL who q ver node, src, exp⟩) := by
  rw [setO_newer h (signed_parse hv hn).1 (signed_chk hv hn hq) (by rw [signed_ver hv hn]; omega) (by rw [signed_ver hv hn]; omega), signed_key hv hn, signed_ver hv hn]
theorem signed_stale (hp : ver < p.ver) : setO (some p) (signedL who q ver node) src exp now = (14, some p) :=
  setO_stale h (signed_parse hv hn).1 (signed_chk hv hn hq) (by rw [signed_ver hv hn]; exact hp)
end
theorem slotsSame_law (first again : Int) (newer : Bool) (F : HP) : CallsS Try.prog 4 #[.int .i64 first, .int .i64 again, .bool newer] F [] (fun v Ps => v = .bool true) := by
  refine callsS_enter Try.func4 rfl Try.ntmps4 (by simp) (fun E => ?_)
  refine W_seq ?_
  refine W.pre (K' := [(0, _), (1, _), (2, _)]) (L' := [(0, _)]) ?_ ⟨rfl, ⟨rfl, ⟨rfl, trivial⟩⟩⟩ ⟨rfl, trivial⟩
  refine W_regL (WL_pure rfl rfl (by decide) (Pu_assign rfl rfl) (WL_nil (X_then ?_)))
  refine W_seq ?_
  refine W_seq ?_
  refine W.pre (K' := [(0, _), (1, _), (2, _), (6, _)]) (L' := [(0, _)]) ?_ ⟨rfl, ⟨rfl, ⟨rfl, ⟨rfl, trivial⟩⟩⟩⟩ ⟨rfl, trivial⟩
  refine W_regL (WL_cons rfl rfl (by decide) (OpT_call 200 [0] [] rfl Try.call6 rfl rfl rfl (by decide) (by decide) (known_spec _) (fun v16 Ps16 hR16 => ?_)))
  obtain ⟨rfl, rfl⟩ := hR16
  refine (WL_pure rfl rfl (by decide) (Pu_un rfl rfl (run_not _)) (WL_nil (X_then ?_)))
  refine W_false rfl (rfl) ?_
  refine W_skip (X_then ?_)
  refine W_seq ?_
  refine W.pre (K' := [(0, _), (1, _), (2, _), (6, _), (17, _)]) (L' := [(0, _)]) ?_ ⟨rfl, ⟨rfl, ⟨rfl, ⟨rfl, ⟨rfl, trivial⟩⟩⟩⟩⟩ ⟨rfl, trivial⟩
  refine W_regL (WL_pure rfl rfl (by decide) (Pu_move rfl rfl) (WL_cons rfl rfl (by decide) (OpT_call 300 [0] [] rfl Try.call9 rfl rfl rfl (by decide) (by decide) (within13_spec first 50 (by omega) (by omega) _) (fun v19 Ps19 hR19 => ?_))))
  obtain ⟨rfl, rfl⟩ := hR19
  refine (WL_pure rfl rfl (by decide) (Pu_bin rfl rfl rfl (run_add _ _ _ _ _ (by omega))) ?_)
  obtain ⟨fa, hfa⟩ : ∃ n, 1 + first % 50 = n := ⟨_, rfl⟩
  have hfb : 1 ≤ fa ∧ fa ≤ 50 := by omega
  rw [hfa]
  refine (WL_pure rfl rfl (by decide) (Pu_move rfl rfl) (WL_cons rfl rfl (by decide) (OpT_call 400 [0] [] rfl Try.call9 rfl rfl rfl (by decide) (by decide) (within13_spec again 50 (by omega) (by omega) _) (fun v22 Ps22 hR22 => ?_))))
  obtain ⟨rfl, rfl⟩ := hR22
  refine (WL_pure rfl rfl (by decide) (Pu_bin rfl rfl rfl (run_add _ _ _ _ _ (by omega))) ?_)
  obtain ⟨ag, hag⟩ : ∃ n, 1 + again % 50 = n := ⟨_, rfl⟩
  have hab : 1 ≤ ag ∧ ag ≤ 50 := by omega
  rw [hag]
  refine (WL_pure rfl rfl (by decide) (Pu_assign rfl rfl) (WL_pure rfl rfl (by decide) (Pu_assign rfl rfl) (WL_nil (X_then ?_))))
  refine W_seq ?_
  refine W.pre (K' := [(0, _), (1, _), (2, _), (6, _), (17, _)]) (L' := [(0, _)]) ?_ ⟨rfl, ⟨rfl, ⟨rfl, ⟨rfl, ⟨rfl, trivial⟩⟩⟩⟩⟩ ⟨rfl, trivial⟩
  refine W_regL (WL_cons rfl rfl (by decide) (OpT_alloc (r := 401) (cs := (bs zeroId)) rfl (zero_run (by kernel_rfl : (Try.prog.info? 29).bind (·.zero) = some (.agg (bs zeroId).toArray))) rfl (fun g401 => (WL_cons rfl rfl (by decide) (OpT_alloc (r := 402) (cs := (bs zeroId)) rfl (zero_run (by kernel_rfl : (Try.prog.info? 29).bind (·.zero) = some (.agg (bs zeroId).toArray))) rfl (fun g402 => (WL_nil (X_then ?_))))))))
  refine W_seq ?_
  refine W.pre (K' := [(0, _), (1, _), (2, _), (6, _), (7, _), (8, _), (17, _)]) (L' := [(0, _), (401, _), (402, _)]) ?_ ⟨rfl, ⟨rfl, ⟨rfl, ⟨rfl, ⟨rfl, ⟨rfl, ⟨rfl, trivial⟩⟩⟩⟩⟩⟩⟩ ⟨rfl, ⟨rfl, ⟨rfl, trivial⟩⟩⟩
  refine W_regL (WL_pure rfl rfl (by decide) (Pu_idxA rfl Try.runUnderlying29 Try.sizeOf5 rfl rfl (by decide)) (WL_cons0 rfl rfl (OpT_storeB1 (r := 401) rfl Try.sizeOf5 rfl rfl rfl rfl (by rw [bs_length]; decide) (show _ = bs (idOf 1) from rfl) ?_)))
  refine (WL_pure rfl rfl (by decide) (Pu_idxA rfl Try.runUnderlying29 Try.sizeOf5 rfl rfl (by decide)) (WL_cons0 rfl rfl (OpT_storeB1 (r := 402) rfl Try.sizeOf5 rfl rfl rfl rfl (by rw [bs_length]; decide) (show _ = bs (idOf 2) from rfl) ?_)))
  refine (WL_nil (X_then ?_))
  refine W_seq ?_
  refine W.pre (K' := [(0, _), (1, _), (2, _), (6, _), (7, _), (8, _), (17, _)]) (L' := [(0, _), (401, _), (402, _)]) ?_ ⟨rfl, ⟨rfl, ⟨rfl, ⟨rfl, ⟨rfl, ⟨rfl, ⟨rfl, trivial⟩⟩⟩⟩⟩⟩⟩ ⟨rfl, ⟨rfl, ⟨rfl, trivial⟩⟩⟩
  refine W_regL (WL_cons rfl rfl (by decide) (OpT_call 500 [0, 401, 402] [] rfl Try.call7 rfl rfl rfl (by decide) (by decide) (newS_spec 2 (by decide) _) (fun v27 Ps27 hR27 => ?_)))
  obtain ⟨gs, rfl, rfl⟩ := hR27
  skip
  refine (WL_pure rfl rfl (by decide) (Pu_move rfl rfl) (WL_pure rfl rfl (by decide) (Pu_extract rfl rfl rfl) (WL_pure rfl rfl (by decide) (Pu_extract rfl rfl rfl) (WL_pure rfl rfl (by decide) (Pu_assign rfl rfl) (WL_pure rfl rfl (by decide) (Pu_assign rfl rfl) (WL_nil (X_then ?_)))))))
  refine W_seq ?_
  refine W.pre (K' := [(0, _), (1, _), (2, _), (6, _), (7, _), (8, _), (9, _), (17, _)]) (L' := [(0, _), (401, _), (402, _), (500, _)]) ?_ ⟨rfl, ⟨rfl, ⟨rfl, ⟨rfl, ⟨rfl, ⟨rfl, ⟨rfl, ⟨rfl, trivial⟩⟩⟩⟩⟩⟩⟩⟩ ⟨rfl, ⟨rfl, ⟨rfl, ⟨rfl, trivial⟩⟩⟩⟩
  refine W_regL (WL_pure rfl rfl (by decide) (Pu_loadBN (r := 401) rfl Try.isAgg29 Try.sizeOf29 rfl rfl ((bs_length _).trans (idOf_length 1)) (load_all ((bs_length _).trans (idOf_length 1)))) (WL_cons rfl rfl (by decide) (OpT_call 600 [0, 401, 402, 500] [] rfl Try.call8 rfl rfl rfl (by decide) (by decide) (signed_spec 2 1 0 (by decide) (by decide) (idOf 1) (idOf_length 1) _) (fun v31 Ps31 hR31 => ?_))))
  subst hR31
  refine (WL_pure rfl rfl (by decide) (Pu_assign rfl rfl) (WL_nil (X_then ?_)))
  refine W_seq ?_
  refine W.pre (K' := [(0, _), (1, _), (2, _), (6, _), (7, _), (8, _), (9, _), (11, _), (17, _)]) (L' := [(0, _), (401, _), (402, _), (500, _), (600, _)]) ?_ ⟨rfl, ⟨rfl, ⟨rfl, ⟨rfl, ⟨rfl, ⟨rfl, ⟨rfl, ⟨rfl, ⟨rfl, trivial⟩⟩⟩⟩⟩⟩⟩⟩⟩ ⟨rfl, ⟨rfl, ⟨rfl, ⟨rfl, ⟨rfl, trivial⟩⟩⟩⟩⟩
  refine W_regL (WL_pure rfl rfl (by decide) (Pu_loadBN (r := 402) rfl Try.isAgg29 Try.sizeOf29 rfl rfl ((bs_length _).trans (idOf_length 2)) (load_all ((bs_length _).trans (idOf_length 2)))) (WL_cons rfl rfl (by decide) (OpT_call 700 [0, 401, 402, 500, 600] [] rfl Try.call8 rfl rfl rfl (by decide) (by decide) (signed_spec 2 1 0 (by decide) (by decide) (idOf 2) (idOf_length 2) _) (fun v33 Ps33 hR33 => ?_))))
  subst hR33
  refine (WL_pure rfl rfl (by decide) (Pu_assign rfl rfl) (WL_nil (X_then ?_)))
  refine W_seq ?_
  refine W_seq ?_
  refine W.pre (K' := [(0, _), (1, _), (2, _), (6, _), (7, _), (8, _), (9, _), (11, _), (12, _), (17, _)]) (L' := [(0, _), (401, _), (402, _), (500, _), (600, _), (700, _)]) ?_ ⟨rfl, ⟨rfl, ⟨rfl, ⟨rfl, ⟨rfl, ⟨rfl, ⟨rfl, ⟨rfl, ⟨rfl, ⟨rfl, trivial⟩⟩⟩⟩⟩⟩⟩⟩⟩⟩ ⟨rfl, ⟨rfl, ⟨rfl, ⟨rfl, ⟨rfl, ⟨rfl, trivial⟩⟩⟩⟩⟩⟩
  refine W_regL (WL_pure rfl rfl (by decide) (Pu_move rfl rfl) (WL_nil (X_then ?_)))
  refine W_cond rfl (fun hc34 => ?_) (fun hc34 => ?_)
  ·
    refine W.pre (K' := [(0, _), (1, _), (2, _), (6, _), (7, _), (8, _), (9, _), (11, _), (12, _), (17, _), (34, _)]) (L' := [(0, _), (401, _), (402, _), (500, _), (600, _), (700, _)]) ?_ ⟨rfl, ⟨rfl, ⟨rfl, ⟨rfl, ⟨rfl, ⟨rfl, ⟨rfl, ⟨rfl, ⟨rfl, ⟨rfl, ⟨rfl, trivial⟩⟩⟩⟩⟩⟩⟩⟩⟩⟩⟩ ⟨rfl, ⟨rfl, ⟨rfl, ⟨rfl, ⟨rfl, ⟨rfl, trivial⟩⟩⟩⟩⟩⟩
    refine W_regL (WL_pure rfl rfl (by decide) (Pu_loadBN (r := 402) rfl Try.isAgg29 Try.sizeOf29 rfl rfl ((bs_length _).trans (idOf_length 2)) (load_all ((bs_length _).trans (idOf_length 2)))) (WL_cons rfl rfl (by decide) (OpT_call 800 [0, 401, 402, 500, 600, 700] [] rfl Try.call8 rfl rfl rfl (by decide) (by decide) (signed_spec 2 2 1 (by decide) (by decide) (idOf 2) (idOf_length 2) _) (fun v36 Ps36 hR36 => ?_))))
    subst hR36
    refine (WL_pure rfl rfl (by decide) (Pu_assign rfl rfl) (WL_nil (X_then ?_)))
    refine W_seq ?_
    refine W.pre (K' := [(0, _), (1, _), (2, _), (6, _), (7, _), (8, _), (9, _), (11, _), (12, _), (17, _), (34, _)]) (L' := [(0, _), (401, _), (402, _), (500, _), (600, _), (700, _), (800, _)]) ?_ ⟨rfl, ⟨rfl, ⟨rfl, ⟨rfl, ⟨rfl, ⟨rfl, ⟨rfl, ⟨rfl, ⟨rfl, ⟨rfl, ⟨rfl, trivial⟩⟩⟩⟩⟩⟩⟩⟩⟩⟩⟩ ⟨rfl, ⟨rfl, ⟨rfl, ⟨rfl, ⟨rfl, ⟨rfl, ⟨rfl, trivial⟩⟩⟩⟩⟩⟩⟩
    have hs1 := signed_new (who := 2) (q := 0) (ver := 1) (node := idOf 1) (by decide) (idOf_length 1) (by decide) (src := 3) (exp := fa) (now := 0) (by simp; omega)
    have hs2 := signed_newer (who := 2) (q := 1) (ver := 2) (node := idOf 2) (p := ⟨sha (pubL 2), 1, signedL 2 0 1 (idOf 1), 3, fa⟩) (by decide) (idOf_length 2) (by decide) (src := 4) (exp := ag) (now := 0) (by simp; omega) (by show (1 : Int) < 2; decide)
    have hs3 := signed_stale (who := 2) (q := 0) (ver := 1) (node := idOf 1) (p := ⟨sha (pubL 2), 2, signedL 2 1 2 (idOf 2), 4, ag⟩) (by decide) (idOf_length 1) (by decide) (src := 3) (exp := 90) (now := 0) (by decide) (by show (1 : Int) < 2; decide)
    refine W_regL (WL_pure rfl rfl (by decide) (Pu_move rfl rfl) (WL_pure rfl rfl (by decide) (Pu_move rfl rfl) (WL_pure rfl rfl (by decide) (Pu_move rfl rfl) (WL_cons rfl rfl (by decide) (OpT_call 900 [0, 401, 402, 600, 700, 800] [500] rfl Try.call10 rfl rfl rfl (by decide) (by decide) (setS_none gs 2 (by decide) _ (signedL 2 0 1 (idOf 1)) (by rw [signed_length (idOf_length _)]; decide) 3 fa 0 _ (rd_star 3 rfl rowB_rd)) (fun v40 Ps40 hR40 => ?_))))))
    obtain ⟨rfl, rfl⟩ := hR40
    skip
    rw [hs1]
    refine (WL_pure rfl rfl (by decide) (Pu_move rfl rfl) (WL_pure rfl rfl (by decide) (Pu_move rfl rfl) (WL_pure rfl rfl (by decide) (Pu_move rfl rfl) (WL_cons rfl rfl (by decide) (OpT_call 1000 [0, 401, 402, 600, 700, 800] [900] rfl Try.call10 rfl rfl rfl (by decide) (by decide) (setS_some gs 2 (by decide) _ (signedL 2 1 2 (idOf 2)) (by rw [signed_length (idOf_length _)]; decide) 4 ag 0 ⟨sha (pubL 2), 1, signedL 2 0 1 (idOf 1), 3, fa⟩ (signed_key (by decide) (idOf_length 2)).symm (by show 0 < fa; omega) _ (rd_star 5 rfl rowB_rd)) (fun v44 Ps44 hR44 => ?_))))))
    obtain ⟨rfl, rfl⟩ := hR44
    skip
    rw [hs2]
    refine (WL_pure rfl rfl (by decide) (Pu_assign rfl rfl) (WL_pure rfl rfl (by decide) (Pu_assign rfl rfl) (WL_nil (X_then ?_))))
    refine W_seq ?_
    refine W.pre (K' := [(0, _), (1, _), (2, _), (6, _), (7, _), (8, _), (9, _), (11, _), (12, _), (13, _), (14, _), (17, _), (34, _)]) (L' := [(0, _), (401, _), (402, _), (600, _), (700, _), (800, _), (1000, _)]) ?_ ⟨rfl, ⟨rfl, ⟨rfl, ⟨rfl, ⟨rfl, ⟨rfl, ⟨rfl, ⟨rfl, ⟨rfl, ⟨rfl, ⟨rfl, ⟨rfl, ⟨rfl, trivial⟩⟩⟩⟩⟩⟩⟩⟩⟩⟩⟩⟩⟩ ⟨rfl, ⟨rfl, ⟨rfl, ⟨rfl, ⟨rfl, ⟨rfl, ⟨rfl, trivial⟩⟩⟩⟩⟩⟩⟩
    refine W_regL (WL_pure rfl rfl (by decide) (Pu_move rfl rfl) (WL_cons rfl rfl (by decide) (OpT_call 1100 [0, 401, 402, 600, 700, 800] [1000] rfl Try.call11 rfl rfl rfl (by decide) (by decide) (allS_spec gs 2 _ (fun p h => by injection h with h; subst h; show List.length _ ≤ _; rw [signed_length (idOf_length _)]; decide) _) (fun v46 Ps46 hR46 => ?_))))
    obtain ⟨zs, hzs, rfl⟩ := hR46
    obtain ⟨z0, rfl, hz0⟩ := es_some hzs
    have hzd : z0.2 = _ := congrArg S1.data hz0
    have hzv : z0.1.ver = _ := congrArg S1.ver hz0
    have hzr : z0.1.src = _ := congrArg S1.src hz0
    have hze : z0.1.exp = _ := congrArg S1.exp hz0
    refine (WL_pure rfl rfl (by decide) (Pu_assign rfl rfl) (WL_nil (X_then ?_)))
    refine W_seq ?_
    refine W_seq ?_
    refine W.pre (K' := [(0, _), (1, _), (2, _), (6, _), (7, _), (8, _), (9, _), (11, _), (12, _), (13, _), (14, _), (15, _), (17, _), (34, _)]) (L' := [(0, _), (401, _), (402, _), (600, _), (700, _), (800, _), (1100, _), (1101, _), (1102, _)]) ?_ ⟨rfl, ⟨rfl, ⟨rfl, ⟨rfl, ⟨rfl, ⟨rfl, ⟨rfl, ⟨rfl, ⟨rfl, ⟨rfl, ⟨rfl, ⟨rfl, ⟨rfl, ⟨rfl, trivial⟩⟩⟩⟩⟩⟩⟩⟩⟩⟩⟩⟩⟩⟩ ⟨rfl, ⟨rfl, ⟨rfl, ⟨rfl, ⟨rfl, ⟨rfl, ⟨rfl, ⟨rfl, ⟨rfl, trivial⟩⟩⟩⟩⟩⟩⟩⟩⟩
    refine W_regL (WL_pure rfl rfl (by decide) (Pu_move rfl rfl) (WL_pure rfl rfl (by decide) (Pu_bin rfl rfl rfl (run_neq _ _ _ _ _ _)) (WL_pure rfl rfl (by decide) (Pu_move rfl rfl) (WL_gPT rfl rfl rfl rfl rfl (by decide) (Pu_move rfl rfl) (WL_gPT rfl rfl rfl rfl rfl (by decide) (Pu_bin rfl rfl rfl (run_neq _ _ _ _ _ _)) (WL_pure rfl rfl (by decide) (Pu_pickF rfl rfl rfl rfl) (WL_pure rfl rfl (by decide) (Pu_move rfl rfl) (WL_gPT rfl rfl rfl rfl rfl (by decide) (Pu_move rfl rfl) (WL_gPT rfl rfl rfl rfl rfl (by decide) (Pu_len (r := 1101) rfl Try.runUnderlying34 rfl rfl (fun h hp => rowP_rd hp)) (WL_gPT rfl rfl rfl rfl rfl (by decide) (Pu_bin rfl rfl rfl (run_neq _ _ _ _ _ _)) (WL_pure rfl rfl (by decide) (Pu_pickF rfl rfl rfl rfl) (WL_nil (X_then ?_)))))))))))))
    refine W_false rfl (rfl) ?_
    refine W_skip (X_then ?_)
    refine W_seq ?_
    refine W_seq ?_
    refine W.pre (K' := [(0, _), (1, _), (2, _), (6, _), (7, _), (8, _), (9, _), (11, _), (12, _), (13, _), (14, _), (15, _), (17, _), (34, _), (57, _)]) (L' := [(0, _), (401, _), (402, _), (600, _), (700, _), (800, _), (1100, _), (1101, _), (1102, _)]) ?_ ⟨rfl, ⟨rfl, ⟨rfl, ⟨rfl, ⟨rfl, ⟨rfl, ⟨rfl, ⟨rfl, ⟨rfl, ⟨rfl, ⟨rfl, ⟨rfl, ⟨rfl, ⟨rfl, ⟨rfl, trivial⟩⟩⟩⟩⟩⟩⟩⟩⟩⟩⟩⟩⟩⟩⟩ ⟨rfl, ⟨rfl, ⟨rfl, ⟨rfl, ⟨rfl, ⟨rfl, ⟨rfl, ⟨rfl, ⟨rfl, trivial⟩⟩⟩⟩⟩⟩⟩⟩⟩
    refine W_regL (WL_pure rfl rfl (by decide) (Pu_move rfl rfl) (WL_nil (X_then ?_)))
    refine W_true rfl (hc34) ?_
    refine W_seq ?_
    refine W.pre (K' := [(0, _), (1, _), (2, _), (6, _), (7, _), (8, _), (9, _), (11, _), (12, _), (13, _), (14, _), (15, _), (17, _), (34, _), (57, _), (58, _)]) (L' := [(0, _), (401, _), (402, _), (600, _), (700, _), (800, _), (1100, _), (1101, _), (1102, _)]) ?_ ⟨rfl, ⟨rfl, ⟨rfl, ⟨rfl, ⟨rfl, ⟨rfl, ⟨rfl, ⟨rfl, ⟨rfl, ⟨rfl, ⟨rfl, ⟨rfl, ⟨rfl, ⟨rfl, ⟨rfl, ⟨rfl, trivial⟩⟩⟩⟩⟩⟩⟩⟩⟩⟩⟩⟩⟩⟩⟩⟩ ⟨rfl, ⟨rfl, ⟨rfl, ⟨rfl, ⟨rfl, ⟨rfl, ⟨rfl, ⟨rfl, ⟨rfl, trivial⟩⟩⟩⟩⟩⟩⟩⟩⟩
    refine W_draw (N := 37) (by kernel_rfl) rfl [(0, _), (401, _), (402, _), (600, _), (800, _), (1101, _), (1102, _)] ⟨rfl, ⟨rfl, ⟨rfl, ⟨rfl, ⟨rfl, ⟨rfl, ⟨rfl, trivial⟩⟩⟩⟩⟩⟩⟩ ?_
    refine (AH_take 0 rfl (by kernel_rfl) (by kernel_rfl) (by kernel_rfl) rfl rfl (by decide) (Pu_move rfl rfl) (AH_take 1 rfl (by kernel_rfl) (by kernel_rfl) (by kernel_rfl) rfl rfl (by decide) (Pu_idxS (r := 1101) rfl Try.runUnderlying34 Try.sizeOf37 rfl rfl rfl (fun h hp => rowP_rd hp) (by simp)) (AH_take 2 rfl (by kernel_rfl) (by kernel_rfl) (by kernel_rfl) rfl rfl (by decide) (Pu_fieldAddrE (off := 33) rfl rfl (by kernel_rfl)) (AH_take 3 rfl (by kernel_rfl) (by kernel_rfl) (by kernel_rfl) rfl rfl (by decide) (Pu_loadS (r := 1101) rfl Try.isAgg30 rfl rfl (fun h hp => rowP_rd hp) ((one_get z0 (j := 33) (by decide)).trans (bk_data z0.1.len))) (AH_take 4 rfl (by kernel_rfl) (by kernel_rfl) (by kernel_rfl) rfl rfl (by decide) (Pu_convBS (r := 1102) rfl Try.underlying30 Try.underlying5 Try.underlying9 rfl rfl (fun h hp => hp z0 (List.mem_singleton.2 rfl))) ?_)))))
    rw [hzd]
    refine (AH_take 5 rfl (by kernel_rfl) (by kernel_rfl) (by kernel_rfl) rfl rfl (by decide) (Pu_move rfl rfl) (AH_take 6 rfl (by kernel_rfl) (by kernel_rfl) (by kernel_rfl) rfl rfl (by decide) (Pu_convBS (r := 800) rfl Try.underlying30 Try.underlying5 Try.underlying9 rfl rfl rowB_rd) (AH_take 7 rfl (by kernel_rfl) (by kernel_rfl) (by kernel_rfl) rfl rfl (by decide) (Pu_bin rfl rfl rfl (run_strEq _ _ _ _ _)) (AH_take 8 rfl (by kernel_rfl) (by kernel_rfl) (by kernel_rfl) rfl rfl (by decide) (Pu_move rfl rfl) (AH_takeT 9 rfl (by kernel_rfl) (by kernel_rfl) (by kernel_rfl) rfl rfl rfl (by simp) rfl (by decide) (Pu_move rfl rfl) (AH_takeT 10 rfl (by kernel_rfl) (by kernel_rfl) (by kernel_rfl) rfl rfl rfl (by simp) rfl (by decide) (Pu_idxS (r := 1101) rfl Try.runUnderlying34 Try.sizeOf37 rfl rfl rfl (fun h hp => rowP_rd hp) (by simp)) (AH_takeT 11 rfl (by kernel_rfl) (by kernel_rfl) (by kernel_rfl) rfl rfl rfl (by simp) rfl (by decide) (Pu_fieldAddrE (off := 32) rfl rfl (by kernel_rfl)) (AH_takeT 12 rfl (by kernel_rfl) (by kernel_rfl) (by kernel_rfl) rfl rfl rfl (by simp) rfl (by decide) (Pu_loadS (r := 1101) rfl Try.isAgg3 rfl rfl (fun h hp => rowP_rd hp) ((one_get z0 (j := 32) (by decide)).trans (bk_ver z0.1.len))) ?_))))))))
    rw [hzv]
    refine (AH_takeT 13 rfl (by kernel_rfl) (by kernel_rfl) (by kernel_rfl) rfl rfl rfl (by simp) rfl (by decide) (Pu_bin rfl rfl rfl (run_eql _ _ _ _ _ _)) (AH_take 14 rfl (by kernel_rfl) (by kernel_rfl) (by kernel_rfl) rfl rfl (by decide) (Pu_pickT rfl rfl (by simp) rfl) (AH_take 15 rfl (by kernel_rfl) (by kernel_rfl) (by kernel_rfl) rfl rfl (by decide) (Pu_move rfl rfl) (AH_takeT 16 rfl (by kernel_rfl) (by kernel_rfl) (by kernel_rfl) rfl rfl rfl (by simp) rfl (by decide) (Pu_move rfl rfl) (AH_takeT 17 rfl (by kernel_rfl) (by kernel_rfl) (by kernel_rfl) rfl rfl rfl (by simp) rfl (by decide) (Pu_idxS (r := 1101) rfl Try.runUnderlying34 Try.sizeOf37 rfl rfl rfl (fun h hp => rowP_rd hp) (by simp)) (AH_takeT 18 rfl (by kernel_rfl) (by kernel_rfl) (by kernel_rfl) rfl rfl rfl (by simp) rfl (by decide) (Pu_fieldAddrE (off := 34) rfl rfl (by kernel_rfl)) (AH_takeT 19 rfl (by kernel_rfl) (by kernel_rfl) (by kernel_rfl) rfl rfl rfl (by simp) rfl (by decide) (Pu_loadS (r := 1101) rfl Try.isAgg3 rfl rfl (fun h hp => rowP_rd hp) ((one_get z0 (j := 34) (by decide)).trans (bk_src z0.1.len))) ?_)))))))
    rw [hzr]
    refine (AH_takeT 20 rfl (by kernel_rfl) (by kernel_rfl) (by kernel_rfl) rfl rfl rfl (by simp) rfl (by decide) (Pu_bin rfl rfl rfl (run_eql _ _ _ _ _ _)) (AH_take 21 rfl (by kernel_rfl) (by kernel_rfl) (by kernel_rfl) rfl rfl (by decide) (Pu_pickT rfl rfl (by simp) rfl) (AH_take 22 rfl (by kernel_rfl) (by kernel_rfl) (by kernel_rfl) rfl rfl (by decide) (Pu_move rfl rfl) (AH_takeT 23 rfl (by kernel_rfl) (by kernel_rfl) (by kernel_rfl) rfl rfl rfl (by simp) rfl (by decide) (Pu_move rfl rfl) (AH_takeT 24 rfl (by kernel_rfl) (by kernel_rfl) (by kernel_rfl) rfl rfl rfl (by simp) rfl (by decide) (Pu_idxS (r := 1101) rfl Try.runUnderlying34 Try.sizeOf37 rfl rfl rfl (fun h hp => rowP_rd hp) (by simp)) (AH_takeT 25 rfl (by kernel_rfl) (by kernel_rfl) (by kernel_rfl) rfl rfl rfl (by simp) rfl (by decide) (Pu_fieldAddrE (off := 35) rfl rfl (by kernel_rfl)) (AH_takeT 26 rfl (by kernel_rfl) (by kernel_rfl) (by kernel_rfl) rfl rfl rfl (by simp) rfl (by decide) (Pu_loadS (r := 1101) rfl Try.isAgg3 rfl rfl (fun h hp => rowP_rd hp) ((one_get z0 (j := 35) (by decide)).trans (bk_exp z0.1.len))) ?_)))))))
    rw [hze]
    refine (AH_takeT 27 rfl (by kernel_rfl) (by kernel_rfl) (by kernel_rfl) rfl rfl rfl (by simp) rfl (by decide) (Pu_move rfl rfl) (AH_takeT 28 rfl (by kernel_rfl) (by kernel_rfl) (by kernel_rfl) rfl rfl rfl (by simp) rfl (by decide) (Pu_bin rfl rfl rfl (run_eql _ _ _ _ _ _)) (AH_take 29 rfl (by kernel_rfl) (by kernel_rfl) (by kernel_rfl) rfl rfl (by decide) (Pu_pickT rfl rfl (by simp) rfl) (AH_take 30 rfl (by kernel_rfl) (by kernel_rfl) (by kernel_rfl) rfl rfl (by decide) (Pu_move rfl rfl) (AH_takeT 31 rfl (by kernel_rfl) (by kernel_rfl) (by kernel_rfl) rfl rfl rfl (by simp) rfl (by decide) (Pu_move rfl rfl) (AH_takeT 32 rfl (by kernel_rfl) (by kernel_rfl) (by kernel_rfl) rfl rfl rfl (by simp) rfl (by decide) (Pu_move rfl rfl) (AH_ready [33] (by kernel_rfl) (by decide) ?_)))))))
    refine AHs_gT rfl rfl rfl rfl (by simp) rfl (by decide) (OpT_call 1200 [0, 401, 402, 600, 700, 800, 1101, 1102] [1100] rfl Try.call10 rfl rfl rfl (by decide) (by decide) (setS_some gs 2 (by decide) _ (signedL 2 0 1 (idOf 1)) (by rw [signed_length (idOf_length _)]; decide) 3 90 0 ⟨sha (pubL 2), 2, signedL 2 1 2 (idOf 2), 4, ag⟩ (signed_key (by decide) (idOf_length 1)).symm (by show 0 < ag; omega) _ (rd_star 3 rfl rowB_rd)) (fun v92 Ps92 hR92 => ?_)) ?_
    ·
      obtain ⟨rfl, rfl⟩ := hR92
      refine ⟨⟨rfl, ⟨rfl, ⟨rfl, ⟨rfl, ⟨rfl, ⟨rfl, ⟨rfl, trivial⟩⟩⟩⟩⟩⟩⟩, ?_⟩
      skip
      rw [hs3]
      refine (AH_takeT 34 rfl (by kernel_rfl) (by kernel_rfl) (by kernel_rfl) rfl rfl rfl (by simp) rfl (by decide) (Pu_bin rfl rfl rfl (run_eql _ _ _ _ _ _)) (AH_take 35 rfl (by kernel_rfl) (by kernel_rfl) (by kernel_rfl) rfl rfl (by decide) (Pu_pickT rfl rfl (by simp) rfl) (AH_take 36 rfl (by kernel_rfl) (by kernel_rfl) (by kernel_rfl) rfl rfl (by decide) (Pu_assign rfl rfl) (AH_done (by kernel_rfl) (X_then ?_)))))
      refine W_ret (X_then_ret ?_)
      exact X_ret [] (Ps := []) (res1 Try.results4 rfl) rfl (by decide) (by simp)
    exact AHs_nil
  ·
    refine W_skip (X_then ?_)
    refine W_seq ?_
    refine W.pre (K' := [(0, _), (1, _), (2, _), (6, _), (7, _), (8, _), (9, _), (11, _), (12, _), (17, _), (34, _)]) (L' := [(0, _), (401, _), (402, _), (500, _), (600, _), (700, _)]) ?_ ⟨rfl, ⟨rfl, ⟨rfl, ⟨rfl, ⟨rfl, ⟨rfl, ⟨rfl, ⟨rfl, ⟨rfl, ⟨rfl, ⟨rfl, trivial⟩⟩⟩⟩⟩⟩⟩⟩⟩⟩⟩ ⟨rfl, ⟨rfl, ⟨rfl, ⟨rfl, ⟨rfl, ⟨rfl, trivial⟩⟩⟩⟩⟩⟩
    have hs1 := signed_new (who := 2) (q := 0) (ver := 1) (node := idOf 1) (by decide) (idOf_length 1) (by decide) (src := 3) (exp := fa) (now := 0) (by simp; omega)
    have hs2 := signed_same (who := 2) (q := 0) (ver := 1) (node := idOf 2) (p := ⟨sha (pubL 2), 1, signedL 2 0 1 (idOf 1), 3, fa⟩) (by decide) (idOf_length 2) (by decide) (src := 4) (exp := ag) (now := 0) (by simp; omega) rfl
    refine W_regL (WL_pure rfl rfl (by decide) (Pu_move rfl rfl) (WL_pure rfl rfl (by decide) (Pu_move rfl rfl) (WL_pure rfl rfl (by decide) (Pu_move rfl rfl) (WL_cons rfl rfl (by decide) (OpT_call 800 [0, 401, 402, 600, 700] [500] rfl Try.call10 rfl rfl rfl (by decide) (by decide) (setS_none gs 2 (by decide) _ (signedL 2 0 1 (idOf 1)) (by rw [signed_length (idOf_length _)]; decide) 3 fa 0 _ (rd_star 3 rfl rowB_rd)) (fun v40 Ps40 hR40 => ?_))))))
    obtain ⟨rfl, rfl⟩ := hR40
    skip
    rw [hs1]
    refine (WL_pure rfl rfl (by decide) (Pu_move rfl rfl) (WL_pure rfl rfl (by decide) (Pu_move rfl rfl) (WL_pure rfl rfl (by decide) (Pu_move rfl rfl) (WL_cons rfl rfl (by decide) (OpT_call 900 [0, 401, 402, 600, 700] [800] rfl Try.call10 rfl rfl rfl (by decide) (by decide) (setS_some gs 2 (by decide) _ (signedL 2 0 1 (idOf 2)) (by rw [signed_length (idOf_length _)]; decide) 4 ag 0 ⟨sha (pubL 2), 1, signedL 2 0 1 (idOf 1), 3, fa⟩ (signed_key (by decide) (idOf_length 2)).symm (by show 0 < fa; omega) _ (rd_star 4 rfl rowB_rd)) (fun v44 Ps44 hR44 => ?_))))))
    obtain ⟨rfl, rfl⟩ := hR44
    skip
    rw [hs2]
    refine (WL_pure rfl rfl (by decide) (Pu_assign rfl rfl) (WL_pure rfl rfl (by decide) (Pu_assign rfl rfl) (WL_nil (X_then ?_))))
    refine W_seq ?_
    refine W.pre (K' := [(0, _), (1, _), (2, _), (6, _), (7, _), (8, _), (9, _), (11, _), (12, _), (13, _), (14, _), (17, _), (34, _)]) (L' := [(0, _), (401, _), (402, _), (600, _), (700, _), (900, _)]) ?_ ⟨rfl, ⟨rfl, ⟨rfl, ⟨rfl, ⟨rfl, ⟨rfl, ⟨rfl, ⟨rfl, ⟨rfl, ⟨rfl, ⟨rfl, ⟨rfl, ⟨rfl, trivial⟩⟩⟩⟩⟩⟩⟩⟩⟩⟩⟩⟩⟩ ⟨rfl, ⟨rfl, ⟨rfl, ⟨rfl, ⟨rfl, ⟨rfl, trivial⟩⟩⟩⟩⟩⟩
    refine W_regL (WL_pure rfl rfl (by decide) (Pu_move rfl rfl) (WL_cons rfl rfl (by decide) (OpT_call 1000 [0, 401, 402, 600, 700] [900] rfl Try.call11 rfl rfl rfl (by decide) (by decide) (allS_spec gs 2 _ (fun p h => by injection h with h; subst h; show List.length _ ≤ _; rw [signed_length (idOf_length _)]; decide) _) (fun v46 Ps46 hR46 => ?_))))
    obtain ⟨zs, hzs, rfl⟩ := hR46
    obtain ⟨z0, rfl, hz0⟩ := es_some hzs
    have hzd : z0.2 = _ := congrArg S1.data hz0
    have hzv : z0.1.ver = _ := congrArg S1.ver hz0
    have hzr : z0.1.src = _ := congrArg S1.src hz0
    have hze : z0.1.exp = _ := congrArg S1.exp hz0
    refine (WL_pure rfl rfl (by decide) (Pu_assign rfl rfl) (WL_nil (X_then ?_)))
    refine W_seq ?_
    refine W_seq ?_
    refine W.pre (K' := [(0, _), (1, _), (2, _), (6, _), (7, _), (8, _), (9, _), (11, _), (12, _), (13, _), (14, _), (15, _), (17, _), (34, _)]) (L' := [(0, _), (401, _), (402, _), (600, _), (700, _), (1000, _), (1001, _), (1002, _)]) ?_ ⟨rfl, ⟨rfl, ⟨rfl, ⟨rfl, ⟨rfl, ⟨rfl, ⟨rfl, ⟨rfl, ⟨rfl, ⟨rfl, ⟨rfl, ⟨rfl, ⟨rfl, ⟨rfl, trivial⟩⟩⟩⟩⟩⟩⟩⟩⟩⟩⟩⟩⟩⟩ ⟨rfl, ⟨rfl, ⟨rfl, ⟨rfl, ⟨rfl, ⟨rfl, ⟨rfl, ⟨rfl, trivial⟩⟩⟩⟩⟩⟩⟩⟩
    refine W_regL (WL_pure rfl rfl (by decide) (Pu_move rfl rfl) (WL_pure rfl rfl (by decide) (Pu_bin rfl rfl rfl (run_neq _ _ _ _ _ _)) (WL_pure rfl rfl (by decide) (Pu_move rfl rfl) (WL_gPT rfl rfl rfl rfl rfl (by decide) (Pu_move rfl rfl) (WL_gPT rfl rfl rfl rfl rfl (by decide) (Pu_bin rfl rfl rfl (run_neq _ _ _ _ _ _)) (WL_pure rfl rfl (by decide) (Pu_pickF rfl rfl rfl rfl) (WL_pure rfl rfl (by decide) (Pu_move rfl rfl) (WL_gPT rfl rfl rfl rfl rfl (by decide) (Pu_move rfl rfl) (WL_gPT rfl rfl rfl rfl rfl (by decide) (Pu_len (r := 1001) rfl Try.runUnderlying34 rfl rfl (fun h hp => rowP_rd hp)) (WL_gPT rfl rfl rfl rfl rfl (by decide) (Pu_bin rfl rfl rfl (run_neq _ _ _ _ _ _)) (WL_pure rfl rfl (by decide) (Pu_pickF rfl rfl rfl rfl) (WL_nil (X_then ?_)))))))))))))
    refine W_false rfl (rfl) ?_
    refine W_skip (X_then ?_)
    refine W_seq ?_
    refine W_seq ?_
    refine W.pre (K' := [(0, _), (1, _), (2, _), (6, _), (7, _), (8, _), (9, _), (11, _), (12, _), (13, _), (14, _), (15, _), (17, _), (34, _), (57, _)]) (L' := [(0, _), (401, _), (402, _), (600, _), (700, _), (1000, _), (1001, _), (1002, _)]) ?_ ⟨rfl, ⟨rfl, ⟨rfl, ⟨rfl, ⟨rfl, ⟨rfl, ⟨rfl, ⟨rfl, ⟨rfl, ⟨rfl, ⟨rfl, ⟨rfl, ⟨rfl, ⟨rfl, ⟨rfl, trivial⟩⟩⟩⟩⟩⟩⟩⟩⟩⟩⟩⟩⟩⟩⟩ ⟨rfl, ⟨rfl, ⟨rfl, ⟨rfl, ⟨rfl, ⟨rfl, ⟨rfl, ⟨rfl, trivial⟩⟩⟩⟩⟩⟩⟩⟩
    refine W_regL (WL_pure rfl rfl (by decide) (Pu_move rfl rfl) (WL_nil (X_then ?_)))
    refine W_false rfl (hc34) ?_
    refine W_skip (X_then ?_)
    refine W_seq ?_
    refine W.pre (K' := [(0, _), (1, _), (2, _), (6, _), (7, _), (8, _), (9, _), (11, _), (12, _), (13, _), (14, _), (15, _), (17, _), (34, _), (57, _), (58, _)]) (L' := [(0, _), (401, _), (402, _), (600, _), (700, _), (1000, _), (1001, _), (1002, _)]) ?_ ⟨rfl, ⟨rfl, ⟨rfl, ⟨rfl, ⟨rfl, ⟨rfl, ⟨rfl, ⟨rfl, ⟨rfl, ⟨rfl, ⟨rfl, ⟨rfl, ⟨rfl, ⟨rfl, ⟨rfl, ⟨rfl, trivial⟩⟩⟩⟩⟩⟩⟩⟩⟩⟩⟩⟩⟩⟩⟩⟩ ⟨rfl, ⟨rfl, ⟨rfl, ⟨rfl, ⟨rfl, ⟨rfl, ⟨rfl, ⟨rfl, trivial⟩⟩⟩⟩⟩⟩⟩⟩
    refine W_draw (N := 33) (by kernel_rfl) rfl [(0, _), (401, _), (402, _), (600, _), (700, _), (1001, _), (1002, _)] ⟨rfl, ⟨rfl, ⟨rfl, ⟨rfl, ⟨rfl, ⟨rfl, ⟨rfl, trivial⟩⟩⟩⟩⟩⟩⟩ ?_
    refine (AH_take 0 rfl (by kernel_rfl) (by kernel_rfl) (by kernel_rfl) rfl rfl (by decide) (Pu_move rfl rfl) (AH_take 1 rfl (by kernel_rfl) (by kernel_rfl) (by kernel_rfl) rfl rfl (by decide) (Pu_idxS (r := 1001) rfl Try.runUnderlying34 Try.sizeOf37 rfl rfl rfl (fun h hp => rowP_rd hp) (by simp)) (AH_take 2 rfl (by kernel_rfl) (by kernel_rfl) (by kernel_rfl) rfl rfl (by decide) (Pu_fieldAddrE (off := 33) rfl rfl (by kernel_rfl)) (AH_take 3 rfl (by kernel_rfl) (by kernel_rfl) (by kernel_rfl) rfl rfl (by decide) (Pu_loadS (r := 1001) rfl Try.isAgg30 rfl rfl (fun h hp => rowP_rd hp) ((one_get z0 (j := 33) (by decide)).trans (bk_data z0.1.len))) (AH_take 4 rfl (by kernel_rfl) (by kernel_rfl) (by kernel_rfl) rfl rfl (by decide) (Pu_convBS (r := 1002) rfl Try.underlying30 Try.underlying5 Try.underlying9 rfl rfl (fun h hp => hp z0 (List.mem_singleton.2 rfl))) ?_)))))
    rw [hzd]
    refine (AH_take 5 rfl (by kernel_rfl) (by kernel_rfl) (by kernel_rfl) rfl rfl (by decide) (Pu_move rfl rfl) (AH_take 6 rfl (by kernel_rfl) (by kernel_rfl) (by kernel_rfl) rfl rfl (by decide) (Pu_convBS (r := 600) rfl Try.underlying30 Try.underlying5 Try.underlying9 rfl rfl rowB_rd) (AH_take 7 rfl (by kernel_rfl) (by kernel_rfl) (by kernel_rfl) rfl rfl (by decide) (Pu_bin rfl rfl rfl (run_strEq _ _ _ _ _)) (AH_take 8 rfl (by kernel_rfl) (by kernel_rfl) (by kernel_rfl) rfl rfl (by decide) (Pu_move rfl rfl) (AH_takeT 9 rfl (by kernel_rfl) (by kernel_rfl) (by kernel_rfl) rfl rfl rfl (by simp) rfl (by decide) (Pu_move rfl rfl) (AH_takeT 10 rfl (by kernel_rfl) (by kernel_rfl) (by kernel_rfl) rfl rfl rfl (by simp) rfl (by decide) (Pu_idxS (r := 1001) rfl Try.runUnderlying34 Try.sizeOf37 rfl rfl rfl (fun h hp => rowP_rd hp) (by simp)) (AH_takeT 11 rfl (by kernel_rfl) (by kernel_rfl) (by kernel_rfl) rfl rfl rfl (by simp) rfl (by decide) (Pu_fieldAddrE (off := 32) rfl rfl (by kernel_rfl)) (AH_takeT 12 rfl (by kernel_rfl) (by kernel_rfl) (by kernel_rfl) rfl rfl rfl (by simp) rfl (by decide) (Pu_loadS (r := 1001) rfl Try.isAgg3 rfl rfl (fun h hp => rowP_rd hp) ((one_get z0 (j := 32) (by decide)).trans (bk_ver z0.1.len))) ?_))))))))
    rw [hzv]
    refine (AH_takeT 13 rfl (by kernel_rfl) (by kernel_rfl) (by kernel_rfl) rfl rfl rfl (by simp) rfl (by decide) (Pu_bin rfl rfl rfl (run_eql _ _ _ _ _ _)) (AH_take 14 rfl (by kernel_rfl) (by kernel_rfl) (by kernel_rfl) rfl rfl (by decide) (Pu_pickT rfl rfl (by simp) rfl) (AH_take 15 rfl (by kernel_rfl) (by kernel_rfl) (by kernel_rfl) rfl rfl (by decide) (Pu_move rfl rfl) (AH_takeT 16 rfl (by kernel_rfl) (by kernel_rfl) (by kernel_rfl) rfl rfl rfl (by simp) rfl (by decide) (Pu_move rfl rfl) (AH_takeT 17 rfl (by kernel_rfl) (by kernel_rfl) (by kernel_rfl) rfl rfl rfl (by simp) rfl (by decide) (Pu_idxS (r := 1001) rfl Try.runUnderlying34 Try.sizeOf37 rfl rfl rfl (fun h hp => rowP_rd hp) (by simp)) (AH_takeT 18 rfl (by kernel_rfl) (by kernel_rfl) (by kernel_rfl) rfl rfl rfl (by simp) rfl (by decide) (Pu_fieldAddrE (off := 34) rfl rfl (by kernel_rfl)) (AH_takeT 19 rfl (by kernel_rfl) (by kernel_rfl) (by kernel_rfl) rfl rfl rfl (by simp) rfl (by decide) (Pu_loadS (r := 1001) rfl Try.isAgg3 rfl rfl (fun h hp => rowP_rd hp) ((one_get z0 (j := 34) (by decide)).trans (bk_src z0.1.len))) ?_)))))))
    rw [hzr]
    refine (AH_takeT 20 rfl (by kernel_rfl) (by kernel_rfl) (by kernel_rfl) rfl rfl rfl (by simp) rfl (by decide) (Pu_bin rfl rfl rfl (run_eql _ _ _ _ _ _)) (AH_take 21 rfl (by kernel_rfl) (by kernel_rfl) (by kernel_rfl) rfl rfl (by decide) (Pu_pickT rfl rfl (by simp) rfl) (AH_take 22 rfl (by kernel_rfl) (by kernel_rfl) (by kernel_rfl) rfl rfl (by decide) (Pu_move rfl rfl) (AH_takeT 23 rfl (by kernel_rfl) (by kernel_rfl) (by kernel_rfl) rfl rfl rfl (by simp) rfl (by decide) (Pu_move rfl rfl) (AH_takeT 24 rfl (by kernel_rfl) (by kernel_rfl) (by kernel_rfl) rfl rfl rfl (by simp) rfl (by decide) (Pu_idxS (r := 1001) rfl Try.runUnderlying34 Try.sizeOf37 rfl rfl rfl (fun h hp => rowP_rd hp) (by simp)) (AH_takeT 25 rfl (by kernel_rfl) (by kernel_rfl) (by kernel_rfl) rfl rfl rfl (by simp) rfl (by decide) (Pu_fieldAddrE (off := 35) rfl rfl (by kernel_rfl)) (AH_takeT 26 rfl (by kernel_rfl) (by kernel_rfl) (by kernel_rfl) rfl rfl rfl (by simp) rfl (by decide) (Pu_loadS (r := 1001) rfl Try.isAgg3 rfl rfl (fun h hp => rowP_rd hp) ((one_get z0 (j := 35) (by decide)).trans (bk_exp z0.1.len))) ?_)))))))
    rw [hze]
    refine (AH_takeT 27 rfl (by kernel_rfl) (by kernel_rfl) (by kernel_rfl) rfl rfl rfl (by simp) rfl (by decide) (Pu_move rfl rfl) (AH_takeT 28 rfl (by kernel_rfl) (by kernel_rfl) (by kernel_rfl) rfl rfl rfl (by simp) rfl (by decide) (Pu_move rfl rfl) (AH_takeT 29 rfl (by kernel_rfl) (by kernel_rfl) (by kernel_rfl) rfl rfl rfl (by simp) rfl (by decide) (Pu_max rfl rfl rfl) (AH_takeT 30 rfl (by kernel_rfl) (by kernel_rfl) (by kernel_rfl) rfl rfl rfl (by simp) rfl (by decide) (Pu_bin rfl rfl rfl (run_eql _ _ _ _ _ _)) (AH_take 31 rfl (by kernel_rfl) (by kernel_rfl) (by kernel_rfl) rfl rfl (by decide) (Pu_pickT rfl rfl (by simp) rfl) (AH_take 32 rfl (by kernel_rfl) (by kernel_rfl) (by kernel_rfl) rfl rfl (by decide) (Pu_assign rfl rfl) (AH_done (by kernel_rfl) (X_then ?_))))))))
    refine W_ret ?_
    exact X_ret [] (Ps := []) (res1 Try.results4 rfl) rfl (by decide) (by simp)
theorem slotsSame_any (W : World) (a0 : Int) (lo0 : -9223372036854775808 ≤ a0) (hi0 : a0 ≤ 9223372036854775807) (a1 : Int) (lo1 : -9223372036854775808 ≤ a1) (hi1 : a1 ≤ 9223372036854775807) (a2 : Bool) :
    Calls Try.prog 4 #[.int .i64 a0, .int .i64 a1, .bool a2] W fun e W' => e = .returned (.bool true) ∧ Chg [] W W' := calls_law (slotsSame_law a0 a1 a2 _)
end Go.Proofs.Ytinamipkpdlphaa
/- From a reading of an argument to plain facts: ints, bools, strings, slices of bytes, of ints, of rows of bytes, of structs. -/
namespace Go.Proofs.Ytinamipkpdlphaa
open Go.RowKit Go.ChangeShapes Go.WideShapes Go.Deep

theorem wf_i64 {n : Int} (h : (Lit.int .i64 n).wf = true) : -9223372036854775808 ≤ n ∧ n ≤ 9223372036854775807 := by
  simp only [Lit.wf, Bool.and_eq_true, decide_eq_true_eq] at h
  have h1 : IntKind.min .i64 = -9223372036854775808 := by decide
  have h2 : IntKind.max .i64 = 9223372036854775807 := by decide
  rw [h1, h2] at h
  exact h
theorem wf_u8 {n : Int} (h : (Lit.int .u8 n).wf = true) : 0 ≤ n ∧ n ≤ 255 := by
  simp only [Lit.wf, Bool.and_eq_true, decide_eq_true_eq] at h
  have h1 : IntKind.min .u8 = 0 := by decide
  have h2 : IntKind.max .u8 = 255 := by decide
  rw [h1, h2] at h
  exact h

/-- A slice of ints that reads as zs. -/
def RdI (w : World) (v : Value) (zs : List Int) : Prop := Rd w 1 v zs.length (zs.map (Value.int .i64))
def I64 (zs : List Int) : Prop := ∀ z ∈ zs, -9223372036854775808 ≤ z ∧ z ≤ 9223372036854775807
/-- A slice of bools that reads as l. -/
def RdT (w : World) (v : Value) (l : List Bool) : Prop := Rd w 1 v l.length (l.map Value.bool)
/-- A slice of rows of bytes: each with its value and its bytes. -/
def RdR (w : World) (v : Value) (ps : List (Value × List UInt8)) : Prop := Rd w 1 v ps.length (ps.map (·.1)) ∧ ∀ p ∈ ps, RdB w p.1 p.2

section
variable {H : Type} {enc : TypeId × Value → H} {P : Program} {w : World} {base : Nat} {spare : Nat → Bool} {held : Bool}

end

section
variable {H : Type} {enc : TypeId × Value → H} {P : Program} {w : World} {base b0 : Nat} {spare : Nat → Bool} {held : Bool} {r : Reach} {t : TypeId} {v : Value} {d : DataW H} {ps : List MemPlace}
theorem op_int (ht : P.underlying t = some (.int .i64)) (hv : Value.okWide P w r b0 t v) (h : DataW.Trod enc P w base spare held t v d ps) : ∃ n, v = .int .i64 n ∧ -9223372036854775808 ≤ n ∧ n ≤ 9223372036854775807 := by
  obtain ⟨n, rfl, _, _, hw⟩ := open_int ht hv h
  exact ⟨n, rfl, (wf_i64 hw).1, (wf_i64 hw).2⟩
end
end Go.Proofs.Ytinamipkpdlphaa
/- From a reading of an argument to plain facts: structs and arrays by value, slices of them. -/
namespace Go.Proofs.Ytinamipkpdlphaa
open Go.RowKit Go.ChangeShapes Go.WideShapes Go.Deep
set_option linter.unusedVariables false
section
variable {H : Type} {enc : TypeId × Value → H} {P : Program} {w : World} {base : Nat} {spare : Nat → Bool} {held : Bool}
/-- These cells read as a value of the type. -/
def Tr (enc : TypeId × Value → H) (P : Program) (w : World) (base : Nat) (spare : Nat → Bool) (held : Bool) (t : TypeId) (cs : List Value) : Prop := ∃ fuel x, DataW.trod enc P w base spare held fuel t cs = some x
theorem Tr.int {t : TypeId} {cs : List Value} (ht : P.underlying t = some (.int .i64)) (h : Tr enc P w base spare held t cs) : ∃ n, cs = [.int .i64 n] ∧ -9223372036854775808 ≤ n ∧ n ≤ 9223372036854775807 := by
  obtain ⟨f, x, h⟩ := h
  obtain ⟨n, rfl, _, hw⟩ := DataW.trod_int ht h
  exact ⟨n, rfl, wf_i64 hw⟩
theorem Tr.bool {t : TypeId} {cs : List Value} (ht : P.underlying t = some .bool) (h : Tr enc P w base spare held t cs) : ∃ b, cs = [Value.bool b] := by
  obtain ⟨f, x, h⟩ := h
  obtain ⟨b, rfl, _⟩ := DataW.trod_bool ht h
  exact ⟨b, rfl⟩
theorem Tr.u8 {t : TypeId} {cs : List Value} (ht : P.underlying t = some (.int .u8)) (h : Tr enc P w base spare held t cs) : ∃ x, cs = [bv x] := by
  obtain ⟨f, x, h⟩ := h
  obtain ⟨n, rfl, _, hw⟩ := DataW.trod_int ht h
  have := wf_u8 hw
  refine ⟨UInt8.ofNat n.toNat, ?_⟩
  simp only [bv]
  congr 2
  rw [UInt8.toNat_ofNat']
  omega
theorem Tr.struct {t : TypeId} {cs : List Value} {fs : Array Field} (ht : P.underlying t = some (.struct fs)) (h : Tr enc P w base spare held t cs) : cs.length = P.cellsOf t ∧ ∀ (i : Nat) (f : Field), fs[i]? = some f → Tr enc P w base spare held f.type ((cs.drop f.offset).take (P.cellsOf f.type)) := by
  obtain ⟨f, x, h⟩ := h
  obtain ⟨xs, n, _, _, hl, hx, hf⟩ := DataW.trod_struct ht h
  refine ⟨hl, fun i f hi => ?_⟩
  have h1 := hf i f hi
  have hlt : i < xs.length := by rw [hx]; exact (Array.getElem?_eq_some_iff.1 hi).1
  rw [List.getElem?_eq_getElem hlt] at h1
  exact ⟨n, _, h1⟩
theorem Tr.array {t e : TypeId} {n : Nat} {cs : List Value} (ht : P.underlying t = some (.array n e)) (h : Tr enc P w base spare held t cs) : cs.length = P.cellsOf t ∧ ∀ i, i < n → Tr enc P w base spare held e ((cs.drop (i * P.cellsOf e)).take (P.cellsOf e)) := by
  obtain ⟨f, x, h⟩ := h
  obtain ⟨xs, m, _, _, hl, hx, hf⟩ := DataW.trod_array ht h
  refine ⟨hl, fun i hi => ?_⟩
  have h1 := hf i hi
  rw [List.getElem?_eq_getElem (by omega)] at h1
  exact ⟨m, _, h1⟩
/-- An array of bytes. -/
theorem Tr.bytes {t e : TypeId} {n : Nat} {cs : List Value} (ht : P.underlying t = some (.array n e)) (he : P.underlying e = some (.int .u8)) (hc : P.cellsOf e = 1) (hn : P.cellsOf t = n) (h : Tr enc P w base spare held t cs) : ∃ l, cs = bs l ∧ l.length = n := by
  obtain ⟨hl, hf⟩ := h.array ht
  rw [hn] at hl
  rw [hc] at hf
  have key : ∀ (cs : List Value), (∀ i, i < cs.length → Tr enc P w base spare held e ((cs.drop (i * 1)).take 1)) → ∃ l, cs = bs l := by
    intro cs
    induction cs with
    | nil => intro _; exact ⟨[], rfl⟩
    | cons u cs ih =>
      intro h
      obtain ⟨l, rfl⟩ := ih (fun i hi => by
        have := h (i + 1) (by simpa using hi)
        simpa using this)
      obtain ⟨x, hx⟩ := (h 0 (by simp)).u8 he
      simp at hx
      exact ⟨x :: l, by simp [bs, hx]⟩
  obtain ⟨l, rfl⟩ := key cs (fun i hi => hf i (by omega))
  exact ⟨l, rfl, by rw [← hl, bs_length]⟩
end
section
variable {H : Type} {enc : TypeId × Value → H} {P : Program} {w : World} {base b0 : Nat} {spare : Nat → Bool} {held : Bool} {r : Reach} {t : TypeId} {v : Value} {d : DataW H} {ps : List MemPlace}
theorem op_bool (ht : P.underlying t = some .bool) (hv : Value.okWide P w r b0 t v) (h : DataW.Trod enc P w base spare held t v d ps) : ∃ b, v = .bool b := by
  obtain ⟨b, h, _⟩ := open_bool ht hv h
  exact ⟨b, h⟩
end
end Go.Proofs.Ytinamipkpdlphaa
