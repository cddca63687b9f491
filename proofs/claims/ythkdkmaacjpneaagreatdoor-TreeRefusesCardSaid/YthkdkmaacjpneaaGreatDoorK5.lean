/- Texts of this proof, one behind the other: TreeL, TreeM, TreeN, TreeO, TreeP, TreeQ, Froz, TreeR, TreeS, Open, Open2, Open3, Open4, TreeT, LaidN. -/
import Derived.Test.YthkdkmaacjpneaaGreatDoorK4
import Derived.Test.YthkdkmaacjpneaaGreatDoorK2
import Derived.Deep.AppendSrc
import Derived.Lib.SlBytesConst
import Derived.Test.YthkdkmaacjpneaaGreatDoorK1
import Derived.ProofKit
import Derived.Deep.Slices
import Derived.Deep.Fields
import Derived.ChangeOld
import Derived.OpenShut
import Derived.SizedLaws
import Derived.ChangeMaps5
import Derived.Test.YthkdkmaacjpneaaGreatDoorK3
import Derived.Test.YthkdkmaacjpneaaGreatDoorRows
import Derived.Lib.LaidU8
import Derived.Shelf.Vars
import Derived.MakeChecks
/- Trees: blocks, inodes and rows are found. -/
namespace Go.Proofs.YthkdkmaacjpneaaGreatDoor
open Go.RowKit
set_option linter.unusedVariables false
set_option linter.unusedSimpArgs false
set_option maxRecDepth 8000
theorem lookA_mem {α : Type} {k : List UInt8} {x : α} : ∀ {es : List (List UInt8 × α)}, lookA k es = some x → (k, x) ∈ es
  | [], h => by cases h
  | p :: es, h => by
    rw [lookA] at h
    by_cases hk : k = p.1
    · rw [if_pos hk] at h; injection h with h; subst h; rw [hk]; exact List.mem_cons_self
    · rw [if_neg hk] at h; exact List.mem_cons_of_mem _ (lookA_mem h)
theorem vw_some {ls : List LB} {k : List UInt8} {p : Value × List UInt8} (h : lookA k ls = some p) : vw ls k = some p.2 := by unfold vw; rw [h]; rfl
theorem vw_none {ls : List LB} {k : List UInt8} (h : lookA k ls = none) : vw ls k = none := by unfold vw; rw [h]; rfl
theorem is_none_F {α : Type} {o : Option α} (h : o.isSome = false) : o = none := by cases o with | none => rfl | some x => cases h
theorem is_some_T {α : Type} {o : Option α} (h : o.isSome = true) : ∃ x, o = some x := by cases o with | none => cases h | some x => exact ⟨x, rfl⟩
theorem fdiv_nat (a b : Nat) : (a : Int).fdiv (2 ^ b) = ((a / 2 ^ b : Nat) : Int) := by
  rw [Int.fdiv_eq_ediv_of_nonneg _ (by exact_mod_cast Nat.zero_le _)]
  simp
theorem pow8 (l : Nat) : 2 ^ (3 * l) = 8 ^ l := by rw [Nat.pow_mul]
theorem rd_nil0 {size : Nat} {h : Hlt} : rdP size (.slice none 0 0) 0 [] h := ⟨by simp, none, 0, rfl, Nat.le_refl _, fun _ => rfl, fun _ h => by cases h⟩
theorem or_of51 {p : List UInt8} {m : Nat} (h : (!decide (parseNE p = 0) || decide (((parseNL p).length : Int) ≤ (m : Int))) = true) : parseNE p ≠ 0 ∨ (parseNL p).length ≤ m := by
  simp at h
  rcases h with h | h
  · exact .inl h
  · exact .inr (by omega)
theorem nor_of51 {p : List UInt8} {m : Nat} (h : (!decide (parseNE p = 0) || decide (((parseNL p).length : Int) ≤ (m : Int))) = false) : ¬ (parseNE p ≠ 0 ∨ (parseNL p).length ≤ m) := by
  simp at h
  intro hc
  rcases hc with hc | hc
  · exact hc h.1
  · omega
theorem or_of80 {p : List UInt8} {s : Int} {k : Nat} (hs : 0 ≤ s) (hk : (k : Int) * 64 < s) (h : (!decide ((p.length : Int) = 1 + min 64 (s - (k : Int) * 64)) || !decide (((at0 p 0).toNat : Int) = 100)) = true) : p.length ≠ 1 + min 64 (s.toNat - k * 64) ∨ at0 p 0 ≠ 100 := by
  by_cases hc : at0 p 0 = 100
  · left
    simp only [Bool.or_eq_true, Bool.not_eq_true', decide_eq_false_iff_not] at h
    rcases h with h | h
    · omega
    · rw [hc] at h; exact absurd rfl h
  · exact .inr hc
theorem nor_of80 {p : List UInt8} {s : Int} {k : Nat} (hs : 0 ≤ s) (hk : (k : Int) * 64 < s) (h : (!decide ((p.length : Int) = 1 + min 64 (s - (k : Int) * 64)) || !decide (((at0 p 0).toNat : Int) = 100)) = false) : ¬ (p.length ≠ 1 + min 64 (s.toNat - k * 64) ∨ at0 p 0 ≠ 100) := by
  simp only [Bool.or_eq_false_iff, Bool.not_eq_false', decide_eq_true_eq] at h
  intro hc
  rcases hc with hc | hc
  · exact hc (by have := h.1; omega)
  · exact hc (UInt8.toNat_inj.1 (by have := h.2; simp; omega))
theorem len_of80 {p : List UInt8} {m : Nat} (h : ¬ (p.length ≠ 1 + m ∨ at0 p 0 ≠ 100)) : 1 ≤ p.length := by
  by_cases hc : p.length = 1 + m
  · omega
  · exact absurd (.inl hc) h
theorem block_some (gm : Nat) (ls : List LB) (F : HP) (hM : ∀ h, F h → mapQ idV ok32 gm (entsL ls) none h) (id : List UInt8) (hid : id.length = 32) (p : Value × List UInt8) (hlk : lookA id ls = some p) : CallsS Tryz.prog 84 #[.map (some gm), idV id] F [] (fun r Ps => r = .tuple #[p.1, .int .i64 0] ∧ Ps = []) := by
  refine callsS_enter Tryz.func84 rfl Tryz.ntmps84 (by simp) (fun E => ?_)
  refine W_seq ?_
  refine W.pre (K' := [(0, _), (1, _)]) (L' := [(0, _)]) ?_ ⟨rfl, ⟨rfl, trivial⟩⟩ ⟨rfl, trivial⟩
  refine W_regL (WL_cons rfl rfl (by decide) (OpT_box (r := 101) rfl rfl rfl (fun g101 => (WL_pure rfl rfl (by decide) (Pu_assign rfl rfl) (WL_pure rfl rfl (by decide) (Pu_assign rfl rfl) (WL_nil (X_then ?_)))))))
  refine W_seq ?_
  refine W.pre (K' := [(0, _), (1, _), (3, _), (4, _), (5, _)]) (L' := [(0, _), (101, _)]) ?_ ⟨rfl, ⟨rfl, ⟨rfl, ⟨rfl, ⟨rfl, trivial⟩⟩⟩⟩⟩ ⟨rfl, ⟨rfl, trivial⟩⟩
  refine W_regL (WL_pure rfl rfl (by decide) (Pu_move rfl rfl) (WL_pure rfl rfl (by decide) (Pu_loadBN (r := 101) rfl Tryz.isAgg29 Tryz.sizeOf29 rfl rfl ((bs_length _).trans hid) (load_all ((bs_length _).trans hid))) (WL_pure rfl rfl (by decide) (Pu_lookupOkF (r := 0) keyB rfl Tryz.underlying93 Tryz.zeroValue36 rfl rfl hid rfl hM) ?_)))
  rw [entsL_fil, lookQ_fil, hlk]
  refine (WL_pure rfl rfl (by decide) (Pu_move rfl rfl) (WL_pure rfl rfl (by decide) (Pu_extract rfl rfl rfl) (WL_pure rfl rfl (by decide) (Pu_extract rfl rfl rfl) (WL_pure rfl rfl (by decide) (Pu_assign rfl rfl) (WL_pure rfl rfl (by decide) (Pu_assign rfl rfl) (WL_nil (X_then ?_)))))))
  refine W_seq ?_
  refine W_seq ?_
  refine W.pre (K' := [(0, _), (1, _), (3, _), (4, _), (5, _), (6, _), (7, _)]) (L' := [(0, _), (101, _)]) ?_ ⟨rfl, ⟨rfl, ⟨rfl, ⟨rfl, ⟨rfl, ⟨rfl, ⟨rfl, trivial⟩⟩⟩⟩⟩⟩⟩ ⟨rfl, ⟨rfl, trivial⟩⟩
  refine W_regL (WL_pure rfl rfl (by decide) (Pu_move rfl rfl) (WL_pure rfl rfl (by decide) (Pu_un rfl rfl (run_not _)) (WL_nil (X_then ?_))))
  refine W_false rfl (rfl) ?_
  refine W_skip (X_then ?_)
  refine W_seq ?_
  refine W.pre (K' := [(0, _), (1, _), (3, _), (4, _), (5, _), (6, _), (7, _), (15, _)]) (L' := [(0, _), (101, _)]) ?_ ⟨rfl, ⟨rfl, ⟨rfl, ⟨rfl, ⟨rfl, ⟨rfl, ⟨rfl, ⟨rfl, trivial⟩⟩⟩⟩⟩⟩⟩⟩ ⟨rfl, ⟨rfl, trivial⟩⟩
  refine W_regL (WL_pure rfl rfl (by decide) (Pu_move rfl rfl) (WL_pure rfl rfl (by decide) (Pu_assign rfl rfl) (WL_pure rfl rfl (by decide) (Pu_assign rfl rfl) (WL_nil (X_then ?_)))))
  refine W_ret ?_
  exact X_ret [] (Ps := []) (res2 Tryz.results84 rfl rfl) rfl (by decide) ⟨rfl, rfl⟩
theorem block_none (gm : Nat) (ls : List LB) (F : HP) (hM : ∀ h, F h → mapQ idV ok32 gm (entsL ls) none h) (id : List UInt8) (hid : id.length = 32) (hlk : lookA id ls = none) : CallsS Tryz.prog 84 #[.map (some gm), idV id] F [] (fun r Ps => r = .tuple #[.slice none 0 0, .int .i64 18] ∧ Ps = []) := by
  refine callsS_enter Tryz.func84 rfl Tryz.ntmps84 (by simp) (fun E => ?_)
  refine W_seq ?_
  refine W.pre (K' := [(0, _), (1, _)]) (L' := [(0, _)]) ?_ ⟨rfl, ⟨rfl, trivial⟩⟩ ⟨rfl, trivial⟩
  refine W_regL (WL_cons rfl rfl (by decide) (OpT_box (r := 101) rfl rfl rfl (fun g101 => (WL_pure rfl rfl (by decide) (Pu_assign rfl rfl) (WL_pure rfl rfl (by decide) (Pu_assign rfl rfl) (WL_nil (X_then ?_)))))))
  refine W_seq ?_
  refine W.pre (K' := [(0, _), (1, _), (3, _), (4, _), (5, _)]) (L' := [(0, _), (101, _)]) ?_ ⟨rfl, ⟨rfl, ⟨rfl, ⟨rfl, ⟨rfl, trivial⟩⟩⟩⟩⟩ ⟨rfl, ⟨rfl, trivial⟩⟩
  refine W_regL (WL_pure rfl rfl (by decide) (Pu_move rfl rfl) (WL_pure rfl rfl (by decide) (Pu_loadBN (r := 101) rfl Tryz.isAgg29 Tryz.sizeOf29 rfl rfl ((bs_length _).trans hid) (load_all ((bs_length _).trans hid))) (WL_pure rfl rfl (by decide) (Pu_lookupOkF (r := 0) keyB rfl Tryz.underlying93 Tryz.zeroValue36 rfl rfl hid rfl hM) ?_)))
  rw [entsL_fil, lookQ_fil, hlk]
  refine (WL_pure rfl rfl (by decide) (Pu_move rfl rfl) (WL_pure rfl rfl (by decide) (Pu_extract rfl rfl rfl) (WL_pure rfl rfl (by decide) (Pu_extract rfl rfl rfl) (WL_pure rfl rfl (by decide) (Pu_assign rfl rfl) (WL_pure rfl rfl (by decide) (Pu_assign rfl rfl) (WL_nil (X_then ?_)))))))
  refine W_seq ?_
  refine W_seq ?_
  refine W.pre (K' := [(0, _), (1, _), (3, _), (4, _), (5, _), (6, _), (7, _)]) (L' := [(0, _), (101, _)]) ?_ ⟨rfl, ⟨rfl, ⟨rfl, ⟨rfl, ⟨rfl, ⟨rfl, ⟨rfl, trivial⟩⟩⟩⟩⟩⟩⟩ ⟨rfl, ⟨rfl, trivial⟩⟩
  refine W_regL (WL_pure rfl rfl (by decide) (Pu_move rfl rfl) (WL_pure rfl rfl (by decide) (Pu_un rfl rfl (run_not _)) (WL_nil (X_then ?_))))
  refine W_true rfl (rfl) ?_
  refine W_seq ?_
  refine W.pre (K' := [(0, _), (1, _), (3, _), (4, _), (5, _), (6, _), (7, _), (15, _)]) (L' := [(0, _), (101, _)]) ?_ ⟨rfl, ⟨rfl, ⟨rfl, ⟨rfl, ⟨rfl, ⟨rfl, ⟨rfl, ⟨rfl, trivial⟩⟩⟩⟩⟩⟩⟩⟩ ⟨rfl, ⟨rfl, trivial⟩⟩
  refine W_regL (WL_pure rfl rfl (by decide) (Pu_assign rfl rfl) (WL_pure rfl rfl (by decide) (Pu_assign rfl rfl) (WL_nil (X_then ?_))))
  refine W_ret (X_then_ret ?_)
  exact X_ret [] (Ps := []) (res2 Tryz.results84 rfl rfl) rfl (by decide) ⟨rfl, rfl⟩
theorem inode_some (gm : Nat) (ls : List LB) (F : HP) (hM : ∀ h, F h → mapQ idV ok32 gm (entsL ls) none h) (hL : ∀ p ∈ ls, ∀ h, F h → rdB p.2.1 p.2.2 h) (id : List UInt8) (hid : id.length = 32) (p : Value × List UInt8) (hlk : lookA id ls = some p) : CallsS Tryz.prog 58 #[.map (some gm), idV id] F [] (fun r Ps => r = .tuple #[.agg (ndC (inodeV (vw ls) id).1).toArray, .int .i64 (inodeV (vw ls) id).2] ∧ Ps = []) := by
  refine callsS_enter Tryz.func58 rfl Tryz.ntmps58 (by simp) (fun E => ?_)
  refine W_seq ?_
  refine W.pre (K' := [(0, _), (1, _)]) (L' := [(0, _)]) ?_ ⟨rfl, ⟨rfl, trivial⟩⟩ ⟨rfl, trivial⟩
  refine W_regL (WL_cons rfl rfl (by decide) (OpT_box (r := 101) rfl rfl rfl (fun g101 => (WL_cons rfl rfl (by decide) (OpT_alloc (r := 102) (cs := (nodeC 0 0 0 zeroId)) rfl (zero_run (by kernel_rfl : (Tryz.prog.info? 42).bind (·.zero) = some (.agg (nodeC 0 0 0 zeroId).toArray))) rfl (fun g102 => (WL_pure rfl rfl (by decide) (Pu_assign rfl rfl) (WL_nil (X_then ?_)))))))))
  refine W_seq ?_
  refine W.pre (K' := [(0, _), (1, _), (3, _), (4, _), (5, _)]) (L' := [(0, _), (101, _), (102, _)]) ?_ ⟨rfl, ⟨rfl, ⟨rfl, ⟨rfl, ⟨rfl, trivial⟩⟩⟩⟩⟩ ⟨rfl, ⟨rfl, ⟨rfl, trivial⟩⟩⟩
  refine W_regL (WL_pure rfl rfl (by decide) (Pu_move rfl rfl) (WL_pure rfl rfl (by decide) (Pu_loadBN (r := 101) rfl Tryz.isAgg29 Tryz.sizeOf29 rfl rfl ((bs_length _).trans hid) (load_all ((bs_length _).trans hid))) (WL_cons rfl rfl (by decide) (OpT_call 200 [0, 101, 102] [] rfl Tryz.call84 rfl rfl rfl (by decide) (by decide) (block_some gm ls _ (mapQ_star 0 rfl hM) id hid p hlk) (fun v11 Ps11 hR11 => ?_)))))
  obtain ⟨rfl, rfl⟩ := hR11
  refine (WL_pure rfl rfl (by decide) (Pu_move rfl rfl) (WL_pure rfl rfl (by decide) (Pu_extract rfl rfl rfl) (WL_pure rfl rfl (by decide) (Pu_extract rfl rfl rfl) (WL_pure rfl rfl (by decide) (Pu_assign rfl rfl) (WL_pure rfl rfl (by decide) (Pu_assign rfl rfl) (WL_nil (X_then ?_)))))))
  refine W_seq ?_
  refine W_seq ?_
  refine W.pre (K' := [(0, _), (1, _), (3, _), (4, _), (5, _), (6, _), (7, _)]) (L' := [(0, _), (101, _), (102, _)]) ?_ ⟨rfl, ⟨rfl, ⟨rfl, ⟨rfl, ⟨rfl, ⟨rfl, ⟨rfl, trivial⟩⟩⟩⟩⟩⟩⟩ ⟨rfl, ⟨rfl, ⟨rfl, trivial⟩⟩⟩
  refine W_regL (WL_pure rfl rfl (by decide) (Pu_move rfl rfl) (WL_pure rfl rfl (by decide) (Pu_bin rfl rfl rfl (run_neq _ _ _ _ _ _)) (WL_nil (X_then ?_))))
  refine W_false rfl (rfl) ?_
  refine W_skip (X_then ?_)
  refine W_seq ?_
  refine W.pre (K' := [(0, _), (1, _), (3, _), (4, _), (5, _), (6, _), (7, _), (15, _)]) (L' := [(0, _), (101, _), (102, _)]) ?_ ⟨rfl, ⟨rfl, ⟨rfl, ⟨rfl, ⟨rfl, ⟨rfl, ⟨rfl, ⟨rfl, trivial⟩⟩⟩⟩⟩⟩⟩⟩ ⟨rfl, ⟨rfl, ⟨rfl, trivial⟩⟩⟩
  refine W_regL (WL_pure rfl rfl (by decide) (Pu_move rfl rfl) (WL_cons rfl rfl (by decide) (OpT_call 300 [0, 101, 102] [] rfl Tryz.call85 rfl rfl rfl (by decide) (by decide) (parseInode_spec p.1 p.2 _ (rd_star 0 rfl (hL _ (lookA_mem hlk)))) (fun v19 Ps19 hR19 => ?_))))
  obtain ⟨rfl, rfl⟩ := hR19
  refine (WL_pure rfl rfl (by decide) (Pu_extract rfl rfl rfl) (WL_pure rfl rfl (by decide) (Pu_extract rfl rfl rfl) (WL_cons0 rfl rfl (OpT_storeAll (r := 102) rfl Tryz.sizeOf42 rfl rfl rfl (nodeC_length zeroId_length) (nodeC_length (parseI_top _)) (one_node _ _ _ _) ?_))))
  refine (WL_pure rfl rfl (by decide) (Pu_assign rfl rfl) (WL_nil (X_then ?_)))
  refine W_ret ?_
  exact X_ret [] (Ps := []) (resC2 (r := 102) Tryz.results58 rfl rfl Tryz.isAgg42 Tryz.sizeOf42 rfl (nodeC_length (parseI_top _))) rfl (by decide) ⟨by unfold inodeV; rw [vw_some hlk] <;> rfl, rfl⟩
theorem inode_none (gm : Nat) (ls : List LB) (F : HP) (hM : ∀ h, F h → mapQ idV ok32 gm (entsL ls) none h) (hL : ∀ p ∈ ls, ∀ h, F h → rdB p.2.1 p.2.2 h) (id : List UInt8) (hid : id.length = 32) (hlk : lookA id ls = none) : CallsS Tryz.prog 58 #[.map (some gm), idV id] F [] (fun r Ps => r = .tuple #[.agg (ndC (inodeV (vw ls) id).1).toArray, .int .i64 (inodeV (vw ls) id).2] ∧ Ps = []) := by
  refine callsS_enter Tryz.func58 rfl Tryz.ntmps58 (by simp) (fun E => ?_)
  refine W_seq ?_
  refine W.pre (K' := [(0, _), (1, _)]) (L' := [(0, _)]) ?_ ⟨rfl, ⟨rfl, trivial⟩⟩ ⟨rfl, trivial⟩
  refine W_regL (WL_cons rfl rfl (by decide) (OpT_box (r := 101) rfl rfl rfl (fun g101 => (WL_cons rfl rfl (by decide) (OpT_alloc (r := 102) (cs := (nodeC 0 0 0 zeroId)) rfl (zero_run (by kernel_rfl : (Tryz.prog.info? 42).bind (·.zero) = some (.agg (nodeC 0 0 0 zeroId).toArray))) rfl (fun g102 => (WL_pure rfl rfl (by decide) (Pu_assign rfl rfl) (WL_nil (X_then ?_)))))))))
  refine W_seq ?_
  refine W.pre (K' := [(0, _), (1, _), (3, _), (4, _), (5, _)]) (L' := [(0, _), (101, _), (102, _)]) ?_ ⟨rfl, ⟨rfl, ⟨rfl, ⟨rfl, ⟨rfl, trivial⟩⟩⟩⟩⟩ ⟨rfl, ⟨rfl, ⟨rfl, trivial⟩⟩⟩
  refine W_regL (WL_pure rfl rfl (by decide) (Pu_move rfl rfl) (WL_pure rfl rfl (by decide) (Pu_loadBN (r := 101) rfl Tryz.isAgg29 Tryz.sizeOf29 rfl rfl ((bs_length _).trans hid) (load_all ((bs_length _).trans hid))) (WL_cons rfl rfl (by decide) (OpT_call 200 [0, 101, 102] [] rfl Tryz.call84 rfl rfl rfl (by decide) (by decide) (block_none gm ls _ (mapQ_star 0 rfl hM) id hid hlk) (fun v11 Ps11 hR11 => ?_)))))
  obtain ⟨rfl, rfl⟩ := hR11
  refine (WL_pure rfl rfl (by decide) (Pu_move rfl rfl) (WL_pure rfl rfl (by decide) (Pu_extract rfl rfl rfl) (WL_pure rfl rfl (by decide) (Pu_extract rfl rfl rfl) (WL_pure rfl rfl (by decide) (Pu_assign rfl rfl) (WL_pure rfl rfl (by decide) (Pu_assign rfl rfl) (WL_nil (X_then ?_)))))))
  refine W_seq ?_
  refine W_seq ?_
  refine W.pre (K' := [(0, _), (1, _), (3, _), (4, _), (5, _), (6, _), (7, _)]) (L' := [(0, _), (101, _), (102, _)]) ?_ ⟨rfl, ⟨rfl, ⟨rfl, ⟨rfl, ⟨rfl, ⟨rfl, ⟨rfl, trivial⟩⟩⟩⟩⟩⟩⟩ ⟨rfl, ⟨rfl, ⟨rfl, trivial⟩⟩⟩
  refine W_regL (WL_pure rfl rfl (by decide) (Pu_move rfl rfl) (WL_pure rfl rfl (by decide) (Pu_bin rfl rfl rfl (run_neq _ _ _ _ _ _)) (WL_nil (X_then ?_))))
  refine W_true rfl (rfl) ?_
  refine W_seq ?_
  refine W.pre (K' := [(0, _), (1, _), (3, _), (4, _), (5, _), (6, _), (7, _), (15, _)]) (L' := [(0, _), (101, _), (102, _)]) ?_ ⟨rfl, ⟨rfl, ⟨rfl, ⟨rfl, ⟨rfl, ⟨rfl, ⟨rfl, ⟨rfl, trivial⟩⟩⟩⟩⟩⟩⟩⟩ ⟨rfl, ⟨rfl, ⟨rfl, trivial⟩⟩⟩
  refine W_regL (WL_pure rfl rfl (by decide) (Pu_build (V := .agg (nodeC 0 0 0 zeroId).toArray) [(0, 1), (1, 1), (2, 1), (3, 32)] (nodeC 0 0 0 zeroId) rfl rfl (by kernel_rfl) (by kernel_rfl) (.nil _) rfl) (WL_pure rfl rfl (by decide) (Pu_move rfl rfl) (WL_cons0 rfl rfl (OpT_storeAll (r := 102) rfl Tryz.sizeOf42 rfl rfl rfl (nodeC_length zeroId_length) (nodeC_length zeroId_length) (one_node _ _ _ _) ?_))))
  refine (WL_pure rfl rfl (by decide) (Pu_assign rfl rfl) (WL_nil (X_then ?_)))
  refine W_ret (X_then_ret ?_)
  exact X_ret [] (Ps := []) (resC2 (r := 102) Tryz.results58 rfl rfl Tryz.isAgg42 Tryz.sizeOf42 rfl (nodeC_length zeroId_length)) rfl (by decide) ⟨by unfold inodeV; rw [vw_none hlk] <;> rfl, rfl⟩
theorem view_inode (gm : Nat) (ls : List LB) (F : HP) (hM : ∀ h, F h → mapQ idV ok32 gm (entsL ls) none h) (hL : ∀ p ∈ ls, ∀ h, F h → rdB p.2.1 p.2.2 h) (id : List UInt8) (hid : id.length = 32) : CallsS Tryz.prog 58 #[.map (some gm), idV id] F [] (fun r Ps => r = .tuple #[.agg (ndC (inodeV (vw ls) id).1).toArray, .int .i64 (inodeV (vw ls) id).2] ∧ Ps = []) := by
  cases hlk : lookA id ls with
  | none => exact inode_none gm ls F hM hL id hid hlk
  | some p => exact inode_some gm ls F hM hL id hid p hlk
theorem view_row (gm : Nat) (ls : List LB) (F : HP) (hM : ∀ h, F h → mapQ idV ok32 gm (entsL ls) none h) (hL : ∀ p ∈ ls, ∀ h, F h → rdB p.2.1 p.2.2 h) (nd : Nd) (hnd : NdOk nd) (k : Nat) (hk : (k : Int) * 64 < nd.2.1) : CallsS Tryz.prog 83 #[.map (some gm), .agg (ndC nd).toArray, .int .i64 (k : Int)] F [] (fun r Ps => Ps = [] ∧ ((rowV (vw ls) nd.2.1.toNat (lev nd.2.1) nd.2.2.2 k).2 ≠ 0 → r = .tuple #[.slice none 0 0, .int .i64 ((rowV (vw ls) nd.2.1.toNat (lev nd.2.1) nd.2.2.2 k).2 : Int)]) ∧ ((rowV (vw ls) nd.2.1.toNat (lev nd.2.1) nd.2.2.2 k).2 = 0 → ∃ p ∈ ls, r = .tuple #[subV 1 p.2.1 1 p.2.2.length, .int .i64 0] ∧ (rowV (vw ls) nd.2.1.toNat (lev nd.2.1) nd.2.2.2 k).1 = p.2.2.drop 1 ∧ 1 ≤ p.2.2.length)) := by
  obtain ⟨hk0, hs0, hs1, hlv, htl⟩ := id hnd
  have hll := lev_le nd.2.1
  refine callsS_enter Tryz.func83 rfl Tryz.ntmps83 (by simp) (fun E => ?_)
  refine W_seq ?_
  refine W.pre (K' := [(0, _), (1, _), (2, _)]) (L' := [(0, _)]) ?_ ⟨rfl, ⟨rfl, ⟨rfl, trivial⟩⟩⟩ ⟨rfl, trivial⟩
  refine W_regL (WL_cons rfl rfl (by decide) (OpT_box (r := 101) rfl rfl rfl (fun g101 => (WL_pure rfl rfl (by decide) (Pu_assign rfl rfl) (WL_pure rfl rfl (by decide) (Pu_assign rfl rfl) (WL_nil (X_then ?_)))))))
  refine W_seq ?_
  refine W.pre (K' := [(0, _), (1, _), (2, _), (4, _), (6, _), (7, _)]) (L' := [(0, _), (101, _)]) ?_ ⟨rfl, ⟨rfl, ⟨rfl, ⟨rfl, ⟨rfl, ⟨rfl, trivial⟩⟩⟩⟩⟩⟩ ⟨rfl, ⟨rfl, trivial⟩⟩
  refine W_regL (WL_pure rfl rfl (by decide) (Pu_fieldAddrB (off := 3) rfl rfl (by kernel_rfl)) (WL_pure rfl rfl (by decide) (Pu_loadBN (r := 101) rfl Tryz.isAgg29 Tryz.sizeOf29 rfl rfl ((bs_length _).trans htl) (take_top htl)) (WL_cons rfl rfl (by decide) (OpT_alloc (r := 102) (cs := (bs zeroId)) rfl (zero_run (by kernel_rfl : (Tryz.prog.info? 29).bind (·.zero) = some (.agg (bs zeroId).toArray))) rfl (fun g102 => (WL_cons0 rfl rfl (OpT_storeAll (r := 102) rfl Tryz.sizeOf29 rfl rfl rfl ((bs_length _).trans zeroId_length) ((bs_length _).trans hnd.2.2.2.2) (bs_one _) ?_)))))))
  refine (WL_nil (X_then ?_))
  refine W_seq ?_
  refine W_seq ?_
  refine W.pre (K' := [(0, _), (1, _), (2, _), (4, _), (6, _), (7, _), (8, _)]) (L' := [(0, _), (101, _), (102, _)]) ?_ ⟨rfl, ⟨rfl, ⟨rfl, ⟨rfl, ⟨rfl, ⟨rfl, ⟨rfl, trivial⟩⟩⟩⟩⟩⟩⟩ ⟨rfl, ⟨rfl, ⟨rfl, trivial⟩⟩⟩
  refine W_regL (WL_pure rfl rfl (by decide) (Pu_fieldAddrB (off := 2) rfl rfl (by kernel_rfl)) (WL_pure rfl rfl (by decide) (Pu_loadB (r := 101) rfl Tryz.isAgg3 rfl rfl rfl) (WL_pure rfl rfl (by decide) (Pu_bin rfl rfl rfl (run_sub _ _ _ _ _ (by have := lev_le nd.2.1; rw [hnd.2.2.2.1]; omega))) ?_)))
  rw [hnd.2.2.2.1]
  refine (WL_pure rfl rfl (by decide) (Pu_assign rfl rfl) (WL_nil (X_then ?_)))
  refine W_block ?_
  refine W_loop (α := Nat × List UInt8) (fun x => [(0, .map (some gm)), (2, .int .i64 (k : Int)), (4, .pointer (some ⟨g101, 0, none⟩)), (8, .pointer (some ⟨g102, 0, none⟩)), (9, .int .i64 ((x.1 : Int) - 1))]) (fun x => [(0, F), (101, blk g101 42 (ndC nd)), (102, blk g102 29 (bs x.2))]) (fun x => x.1 ≤ 7 ∧ x.2.length = 32 ∧ rowA (vw ls) k x.1 x.2 = rowA (vw ls) k (lev nd.2.1) nd.2.2.2) (fun x => x.1) ((lev nd.2.1, nd.2.2.2)) ⟨lev_le _, hnd.2.2.2.2, rfl⟩ ⟨rfl, ⟨rfl, ⟨rfl, ⟨rfl, ⟨rfl, trivial⟩⟩⟩⟩⟩ ⟨rfl, ⟨rfl, ⟨rfl, trivial⟩⟩⟩ (fun x hx => ?_)
  obtain ⟨hx1, hx2, hx3⟩ := hx
  refine W_seq ?_
  refine W_seq ?_
  refine W.pre (K' := [(0, _), (2, _), (4, _), (8, _), (9, _)]) (L' := [(0, _), (101, _), (102, _)]) ?_ ⟨rfl, ⟨rfl, ⟨rfl, ⟨rfl, ⟨rfl, trivial⟩⟩⟩⟩⟩ ⟨rfl, ⟨rfl, ⟨rfl, trivial⟩⟩⟩
  refine W_regL (WL_pure rfl rfl (by decide) (Pu_move rfl rfl) (WL_pure rfl rfl (by decide) (Pu_bin rfl rfl rfl (run_geq _ _ _ _ _ _)) (WL_nil (X_then ?_))))
  refine W_cond rfl (fun hc22 => ?_) (fun hc22 => ?_)
  ·
    obtain ⟨l, hl⟩ : ∃ l, x.1 = l + 1 := ⟨x.1 - 1, by have := of_decide_eq_true hc22; omega⟩
    obtain ⟨q, hq1, hq2⟩ : ∃ q : Nat, q = k / 8 ^ l ∧ q ≤ k := ⟨_, rfl, Nat.div_le_self _ _⟩
    refine W_skip (X_then ?_)
    refine W_seq ?_
    refine W_block ?_
    refine W_seq ?_
    refine W.pre (K' := [(0, _), (2, _), (4, _), (8, _), (9, _), (22, _)]) (L' := [(0, _), (101, _), (102, _)]) ?_ ⟨rfl, ⟨rfl, ⟨rfl, ⟨rfl, ⟨rfl, ⟨rfl, trivial⟩⟩⟩⟩⟩⟩ ⟨rfl, ⟨rfl, ⟨rfl, trivial⟩⟩⟩
    rcases Bool.eq_false_or_eq_true ((lookA x.2 ls).isSome) with hsp5 | hsp5
    ·
      obtain ⟨p, hlk⟩ := is_some_T hsp5
      have hpm := lookA_mem hlk
      have hpd : ∀ h, F h → rdB p.1 p.2 h := hL _ hpm
      refine W_regL (WL_pure rfl rfl (by decide) (Pu_move rfl rfl) (WL_pure rfl rfl (by decide) (Pu_loadBN (r := 102) rfl Tryz.isAgg29 Tryz.sizeOf29 rfl rfl ((bs_length _).trans hx2) (load_all ((bs_length _).trans hx2))) (WL_cons rfl rfl (by decide) (OpT_call 200 [0, 101, 102] [] rfl Tryz.call84 rfl rfl rfl (by decide) (by decide) (block_some gm ls _ (mapQ_star 0 rfl hM) x.2 hx2 p hlk) (fun v28 Ps28 hR28 => ?_)))))
      obtain ⟨rfl, rfl⟩ := hR28
      refine (WL_pure rfl rfl (by decide) (Pu_move rfl rfl) (WL_pure rfl rfl (by decide) (Pu_extract rfl rfl rfl) (WL_pure rfl rfl (by decide) (Pu_extract rfl rfl rfl) (WL_pure rfl rfl (by decide) (Pu_assign rfl rfl) (WL_pure rfl rfl (by decide) (Pu_assign rfl rfl) (WL_nil (X_then ?_)))))))
      refine W_seq ?_
      refine W_seq ?_
      refine W.pre (K' := [(0, _), (2, _), (4, _), (8, _), (9, _), (10, _), (11, _), (22, _)]) (L' := [(0, _), (101, _), (102, _)]) ?_ ⟨rfl, ⟨rfl, ⟨rfl, ⟨rfl, ⟨rfl, ⟨rfl, ⟨rfl, ⟨rfl, trivial⟩⟩⟩⟩⟩⟩⟩⟩ ⟨rfl, ⟨rfl, ⟨rfl, trivial⟩⟩⟩
      refine W_regL (WL_pure rfl rfl (by decide) (Pu_move rfl rfl) (WL_pure rfl rfl (by decide) (Pu_bin rfl rfl rfl (run_neq _ _ _ _ _ _)) (WL_nil (X_then ?_))))
      refine W_false rfl (rfl) ?_
      refine W_skip (X_then ?_)
      refine W_seq ?_
      refine W.pre (K' := [(0, _), (2, _), (4, _), (8, _), (9, _), (10, _), (11, _), (22, _), (32, _)]) (L' := [(0, _), (101, _), (102, _)]) ?_ ⟨rfl, ⟨rfl, ⟨rfl, ⟨rfl, ⟨rfl, ⟨rfl, ⟨rfl, ⟨rfl, ⟨rfl, trivial⟩⟩⟩⟩⟩⟩⟩⟩⟩ ⟨rfl, ⟨rfl, ⟨rfl, trivial⟩⟩⟩
      refine W_regL (WL_pure rfl rfl (by decide) (Pu_move rfl rfl) (WL_cons rfl rfl (by decide) (OpT_call 300 [0, 101, 102] [] rfl Tryz.call119 rfl rfl rfl (by decide) (by decide) (parseInner_spec p.1 p.2 _ (rd_star 0 rfl hpd)) (fun v36 Ps36 hR36 => ?_))))
      obtain ⟨w36, rfl, rfl⟩ := hR36
      skip
      refine (WL_pure rfl rfl (by decide) (Pu_move rfl rfl) (WL_pure rfl rfl (by decide) (Pu_extract rfl rfl rfl) (WL_pure rfl rfl (by decide) (Pu_extract rfl rfl rfl) (WL_pure rfl rfl (by decide) (Pu_assign rfl rfl) (WL_pure rfl rfl (by decide) (Pu_assign rfl rfl) (WL_nil (X_then ?_)))))))
      refine W_seq ?_
      refine W.pre (K' := [(0, _), (2, _), (4, _), (8, _), (9, _), (10, _), (11, _), (12, _), (22, _), (32, _)]) (L' := [(0, _), (101, _), (102, _), (300, _)]) ?_ ⟨rfl, ⟨rfl, ⟨rfl, ⟨rfl, ⟨rfl, ⟨rfl, ⟨rfl, ⟨rfl, ⟨rfl, ⟨rfl, trivial⟩⟩⟩⟩⟩⟩⟩⟩⟩⟩ ⟨rfl, ⟨rfl, ⟨rfl, ⟨rfl, trivial⟩⟩⟩⟩
      refine W_regL (WL_pure rfl rfl (by decide) (Pu_move rfl rfl) (WL_pure rfl rfl (by decide) (Pu_move rfl rfl) (WL_pure rfl rfl (by decide) (Pu_bin rfl rfl rfl (run_mul _ _ _ _ _ (by omega))) ?_)))
      rw [show (3 : Int) * ((x.1 : Int) - 1) = ((3 * l : Nat) : Int) by omega]
      refine (WL_pure rfl rfl (by decide) (Pu_bin rfl rfl rfl (run_shr (k : Int) (3 * l) _ _ _ (by omega))) ?_)
      rw [fdiv_nat, pow8, ← hq1]
      refine (WL_pure rfl rfl (by decide) (Pu_bin rfl rfl rfl (run_rem _ _ _ _ _ (by omega))) ?_)
      rw [show (q : Int) % 8 = ((q % 8 : Nat) : Int) from rfl]
      refine (WL_pure rfl rfl (by decide) (Pu_assign rfl rfl) (WL_nil (X_then ?_)))
      refine W_seq ?_
      refine W_seq ?_
      refine W.pre (K' := [(0, _), (2, _), (4, _), (8, _), (9, _), (10, _), (11, _), (12, _), (13, _), (22, _), (32, _)]) (L' := [(0, _), (101, _), (102, _), (300, _)]) ?_ ⟨rfl, ⟨rfl, ⟨rfl, ⟨rfl, ⟨rfl, ⟨rfl, ⟨rfl, ⟨rfl, ⟨rfl, ⟨rfl, ⟨rfl, trivial⟩⟩⟩⟩⟩⟩⟩⟩⟩⟩⟩ ⟨rfl, ⟨rfl, ⟨rfl, ⟨rfl, trivial⟩⟩⟩⟩
      refine W_regL (WL_pure rfl rfl (by decide) (Pu_move rfl rfl) (WL_pure rfl rfl (by decide) (Pu_bin rfl rfl rfl (run_neq _ _ _ _ _ _)) (WL_pure rfl rfl (by decide) (Pu_move rfl rfl) (WL_guardP rfl rfl rfl rfl (by decide) (fun hb => (Pu_move rfl rfl)) (WL_guardP rfl rfl rfl rfl (by decide) (fun hb => (Pu_move rfl rfl)) (WL_guardP rfl rfl rfl rfl (by decide) (fun hb => (Pu_len (r := 300) rfl Tryz.runUnderlying165 (ev_gv rfl hb) rfl (fun _ h => rowP_rd h))) (WL_guardP rfl rfl rfl rfl (by decide) (fun hb => (Pu_bin rfl (ev_gv rfl hb) (ev_gv rfl hb) (run_geq _ _ _ _ _ _))) (WL_pure rfl rfl (by decide) (Pu_or rfl rfl rfl) (WL_nil (X_then ?_))))))))))
      refine W_cond rfl (fun hc51 => ?_) (fun hc51 => ?_)
      ·
        have hbad : rowA (vw ls) k (lev nd.2.1) nd.2.2.2 = ([], 11) := by rw [← hx3, hl, rowA, vw_some hlk]; dsimp only; rw [← hq1, if_pos (or_of51 hc51)]
        refine W_seq ?_
        refine W.pre (K' := [(0, _), (2, _), (4, _), (8, _), (9, _), (10, _), (11, _), (12, _), (13, _), (22, _), (32, _), (51, _)]) (L' := [(0, _), (101, _), (102, _), (300, _)]) ?_ ⟨rfl, ⟨rfl, ⟨rfl, ⟨rfl, ⟨rfl, ⟨rfl, ⟨rfl, ⟨rfl, ⟨rfl, ⟨rfl, ⟨rfl, ⟨rfl, trivial⟩⟩⟩⟩⟩⟩⟩⟩⟩⟩⟩⟩ ⟨rfl, ⟨rfl, ⟨rfl, ⟨rfl, trivial⟩⟩⟩⟩
        refine W_regL (WL_pure rfl rfl (by decide) (Pu_assign rfl rfl) (WL_pure rfl rfl (by decide) (Pu_assign rfl rfl) (WL_nil (X_then ?_))))
        refine W_ret (X_then_ret (X_block_ret (X_then_ret (X_then_ret (X_block_ret (X_then_ret ?_))))))
        have hres : rowV (vw ls) nd.2.1.toNat (lev nd.2.1) nd.2.2.2 k = ([], 11) := by unfold rowV rowE2; rw [hbad]; rfl
        exact X_ret [] (Ps := []) (res2 Tryz.results83 rfl rfl) rfl (by decide) (by rw [hres]; exact ⟨rfl, fun _ => rfl, fun h => absurd h (by decide)⟩)
      ·
        have hok51 : ¬ (parseNE p.2 ≠ 0 ∨ (parseNL p.2).length ≤ q % 8) := nor_of51 hc51
        have hlt51 : q % 8 < (parseNL p.2).length := by omega
        have hid2 := (parseNL_ids p.2).1.get hlt51
        refine W_skip (X_then ?_)
        refine W.pre (K' := [(0, _), (2, _), (4, _), (8, _), (9, _), (10, _), (11, _), (12, _), (13, _), (22, _), (32, _), (51, _)]) (L' := [(0, _), (101, _), (102, _), (300, _)]) ?_ ⟨rfl, ⟨rfl, ⟨rfl, ⟨rfl, ⟨rfl, ⟨rfl, ⟨rfl, ⟨rfl, ⟨rfl, ⟨rfl, ⟨rfl, ⟨rfl, trivial⟩⟩⟩⟩⟩⟩⟩⟩⟩⟩⟩⟩ ⟨rfl, ⟨rfl, ⟨rfl, ⟨rfl, trivial⟩⟩⟩⟩
        refine W_regL (WL_pure rfl rfl (by decide) (Pu_move rfl rfl) (WL_pure rfl rfl (by decide) (Pu_move rfl rfl) (WL_pure rfl rfl (by decide) (Pu_idxS (r := 300) rfl Tryz.runUnderlying165 Tryz.sizeOf29 rfl rfl rfl (fun _ h => rowP_rd h) (by omega)) (WL_pure rfl rfl (by decide) (Pu_loadSN (r := 300) rfl Tryz.isAgg29 Tryz.sizeOf29 rfl rfl (fun _ h => rowP_rd h) ((bs_length _).trans hid2) (by decide) (idsC_get (parseNL_ids p.2).1 hlt51)) (WL_cons0 rfl rfl (OpT_storeAll (r := 102) rfl Tryz.sizeOf29 rfl rfl rfl ((bs_length _).trans hx2) ((bs_length _).trans hid2) (bs_one _) ?_))))))
        refine (WL_nil (X_block (X_then ?_)))
        refine W.pre (K' := [(0, _), (2, _), (4, _), (8, _), (9, _), (10, _), (11, _), (12, _), (13, _), (22, _), (32, _), (51, _)]) (L' := [(0, _), (101, _), (102, _), (300, _)]) ?_ ⟨rfl, ⟨rfl, ⟨rfl, ⟨rfl, ⟨rfl, ⟨rfl, ⟨rfl, ⟨rfl, ⟨rfl, ⟨rfl, ⟨rfl, ⟨rfl, trivial⟩⟩⟩⟩⟩⟩⟩⟩⟩⟩⟩⟩ ⟨rfl, ⟨rfl, ⟨rfl, ⟨rfl, trivial⟩⟩⟩⟩
        refine W_regL (WL_pure rfl rfl (by decide) (Pu_move rfl rfl) (WL_pure rfl rfl (by decide) (Pu_bin rfl rfl rfl (run_sub _ _ _ _ _ (by omega))) (WL_pure rfl rfl (by decide) (Pu_assign rfl rfl) (WL_nil ?_))))
        exact X_round (l, (parseNL p.2).getD (q % 8) []) ⟨by dsimp only; omega, hid2, by rw [← hx3, hl, rowA, vw_some hlk]; dsimp only; rw [← hq1, if_neg hok51]⟩ (by dsimp only; omega) ⟨rfl, rfl, rfl, rfl, lookV_eq rfl (int_eq (by dsimp only; omega)), trivial⟩ ⟨rfl, rfl, rfl, trivial⟩
    ·
      have hlk := is_none_F hsp5
      refine W_regL (WL_pure rfl rfl (by decide) (Pu_move rfl rfl) (WL_pure rfl rfl (by decide) (Pu_loadBN (r := 102) rfl Tryz.isAgg29 Tryz.sizeOf29 rfl rfl ((bs_length _).trans hx2) (load_all ((bs_length _).trans hx2))) (WL_cons rfl rfl (by decide) (OpT_call 200 [0, 101, 102] [] rfl Tryz.call84 rfl rfl rfl (by decide) (by decide) (block_none gm ls _ (mapQ_star 0 rfl hM) x.2 hx2 hlk) (fun v28 Ps28 hR28 => ?_)))))
      obtain ⟨rfl, rfl⟩ := hR28
      refine (WL_pure rfl rfl (by decide) (Pu_move rfl rfl) (WL_pure rfl rfl (by decide) (Pu_extract rfl rfl rfl) (WL_pure rfl rfl (by decide) (Pu_extract rfl rfl rfl) (WL_pure rfl rfl (by decide) (Pu_assign rfl rfl) (WL_pure rfl rfl (by decide) (Pu_assign rfl rfl) (WL_nil (X_then ?_)))))))
      refine W_seq ?_
      refine W_seq ?_
      refine W.pre (K' := [(0, _), (2, _), (4, _), (8, _), (9, _), (10, _), (11, _), (22, _)]) (L' := [(0, _), (101, _), (102, _)]) ?_ ⟨rfl, ⟨rfl, ⟨rfl, ⟨rfl, ⟨rfl, ⟨rfl, ⟨rfl, ⟨rfl, trivial⟩⟩⟩⟩⟩⟩⟩⟩ ⟨rfl, ⟨rfl, ⟨rfl, trivial⟩⟩⟩
      refine W_regL (WL_pure rfl rfl (by decide) (Pu_move rfl rfl) (WL_pure rfl rfl (by decide) (Pu_bin rfl rfl rfl (run_neq _ _ _ _ _ _)) (WL_nil (X_then ?_))))
      refine W_true rfl (rfl) ?_
      refine W_seq ?_
      refine W.pre (K' := [(0, _), (2, _), (4, _), (8, _), (9, _), (10, _), (11, _), (22, _), (32, _)]) (L' := [(0, _), (101, _), (102, _)]) ?_ ⟨rfl, ⟨rfl, ⟨rfl, ⟨rfl, ⟨rfl, ⟨rfl, ⟨rfl, ⟨rfl, ⟨rfl, trivial⟩⟩⟩⟩⟩⟩⟩⟩⟩ ⟨rfl, ⟨rfl, ⟨rfl, trivial⟩⟩⟩
      refine W_regL (WL_pure rfl rfl (by decide) (Pu_move rfl rfl) (WL_pure rfl rfl (by decide) (Pu_assign rfl rfl) (WL_pure rfl rfl (by decide) (Pu_assign rfl rfl) (WL_nil (X_then ?_)))))
      refine W_ret (X_then_ret (X_block_ret (X_then_ret (X_then_ret (X_block_ret (X_then_ret ?_))))))
      have hres : rowV (vw ls) nd.2.1.toNat (lev nd.2.1) nd.2.2.2 k = ([], 18) := by unfold rowV rowE2; rw [← hx3, hl, rowA, vw_none hlk]; rfl
      exact X_ret [] (Ps := []) (res2 Tryz.results83 rfl rfl) rfl (by decide) (by rw [hres]; exact ⟨rfl, fun _ => rfl, fun h => absurd h (by decide)⟩)
  ·
    have hl0 : x.1 = 0 := by have := of_decide_eq_false hc22; omega
    have hra : rowA (vw ls) k (lev nd.2.1) nd.2.2.2 = (x.2, 0) := by rw [← hx3, hl0]; rfl
    refine W_exit (X_then_exit (X_then_exit (X_block_exit (X_then ?_))))
    refine W_seq ?_
    refine W.pre (K' := [(0, _), (2, _), (4, _), (8, _), (9, _), (22, _)]) (L' := [(0, _), (101, _), (102, _)]) ?_ ⟨rfl, ⟨rfl, ⟨rfl, ⟨rfl, ⟨rfl, ⟨rfl, trivial⟩⟩⟩⟩⟩⟩ ⟨rfl, ⟨rfl, ⟨rfl, trivial⟩⟩⟩
    rcases Bool.eq_false_or_eq_true ((lookA x.2 ls).isSome) with hsp13 | hsp13
    ·
      obtain ⟨p, hlk⟩ := is_some_T hsp13
      have hpm := lookA_mem hlk
      have hpd : ∀ h, F h → rdB p.1 p.2 h := hL _ hpm
      refine W_regL (WL_pure rfl rfl (by decide) (Pu_move rfl rfl) (WL_pure rfl rfl (by decide) (Pu_loadBN (r := 102) rfl Tryz.isAgg29 Tryz.sizeOf29 rfl rfl ((bs_length _).trans hx2) (load_all ((bs_length _).trans hx2))) (WL_cons rfl rfl (by decide) (OpT_call 200 [0, 101, 102] [] rfl Tryz.call84 rfl rfl rfl (by decide) (by decide) (block_some gm ls _ (mapQ_star 0 rfl hM) x.2 hx2 p hlk) (fun v59 Ps59 hR59 => ?_)))))
      obtain ⟨rfl, rfl⟩ := hR59
      refine (WL_pure rfl rfl (by decide) (Pu_move rfl rfl) (WL_pure rfl rfl (by decide) (Pu_extract rfl rfl rfl) (WL_pure rfl rfl (by decide) (Pu_extract rfl rfl rfl) (WL_pure rfl rfl (by decide) (Pu_assign rfl rfl) (WL_pure rfl rfl (by decide) (Pu_assign rfl rfl) (WL_nil (X_then ?_)))))))
      refine W_seq ?_
      refine W_seq ?_
      refine W.pre (K' := [(0, _), (2, _), (4, _), (8, _), (9, _), (14, _), (15, _), (22, _)]) (L' := [(0, _), (101, _), (102, _)]) ?_ ⟨rfl, ⟨rfl, ⟨rfl, ⟨rfl, ⟨rfl, ⟨rfl, ⟨rfl, ⟨rfl, trivial⟩⟩⟩⟩⟩⟩⟩⟩ ⟨rfl, ⟨rfl, ⟨rfl, trivial⟩⟩⟩
      refine W_regL (WL_pure rfl rfl (by decide) (Pu_move rfl rfl) (WL_pure rfl rfl (by decide) (Pu_bin rfl rfl rfl (run_neq _ _ _ _ _ _)) (WL_nil (X_then ?_))))
      refine W_false rfl (rfl) ?_
      refine W_skip (X_then ?_)
      refine W_seq ?_
      refine W_seq ?_
      refine W.pre (K' := [(0, _), (2, _), (4, _), (8, _), (9, _), (14, _), (15, _), (22, _), (63, _)]) (L' := [(0, _), (101, _), (102, _)]) ?_ ⟨rfl, ⟨rfl, ⟨rfl, ⟨rfl, ⟨rfl, ⟨rfl, ⟨rfl, ⟨rfl, ⟨rfl, trivial⟩⟩⟩⟩⟩⟩⟩⟩⟩ ⟨rfl, ⟨rfl, ⟨rfl, trivial⟩⟩⟩
      refine W_regL (WL_pure rfl rfl (by decide) (Pu_move rfl rfl) (WL_pure rfl rfl (by decide) (Pu_len (r := 0) rfl Tryz.runUnderlying36 rfl rfl hpd) (WL_pure rfl rfl (by decide) (Pu_fieldAddrB (off := 1) rfl rfl (by kernel_rfl)) (WL_pure rfl rfl (by decide) (Pu_loadB (r := 101) rfl Tryz.isAgg3 rfl rfl rfl) (WL_pure rfl rfl (by decide) (Pu_move rfl rfl) (WL_pure rfl rfl (by decide) (Pu_bin rfl rfl rfl (run_mul _ _ _ _ _ (by omega))) (WL_pure rfl rfl (by decide) (Pu_bin rfl rfl rfl (run_sub _ _ _ _ _ (by omega))) (WL_pure rfl rfl (by decide) (Pu_min rfl rfl rfl) (WL_pure rfl rfl (by decide) (Pu_bin rfl rfl rfl (run_add _ _ _ _ _ (by omega))) (WL_pure rfl rfl (by decide) (Pu_bin rfl rfl rfl (run_neq _ _ _ _ _ _)) (WL_pure rfl rfl (by decide) (Pu_move rfl rfl) (WL_guardP rfl rfl rfl rfl (by decide) (fun hb => (Pu_move rfl rfl)) (WL_guardP rfl rfl rfl rfl (by decide) (fun hb => (Pu_idxS1 (r := 0) rfl Tryz.runUnderlying36 Tryz.sizeOf5 (ev_gv rfl hb) rfl rfl hpd (by have h9 : ((p.2.length : Int) = 1 + min 64 (nd.2.1 - (k : Int) * 64)) := (by simpa using hb); omega))) (WL_guardP rfl rfl rfl rfl (by decide) (fun hb => (Pu_loadS (r := 0) rfl Tryz.isAgg5 (ev_gv rfl hb) rfl hpd (bs_at1 (by have h9 : ((p.2.length : Int) = 1 + min 64 (nd.2.1 - (k : Int) * 64)) := (by simpa using hb); omega)))) (WL_guardP rfl rfl rfl rfl (by decide) (fun hb => (Pu_bin rfl (ev_gv rfl hb) rfl (run_neq _ _ _ _ _ _))) (WL_pure rfl rfl (by decide) (Pu_or rfl rfl rfl) (WL_nil (X_then ?_))))))))))))))))))
      refine W_cond rfl (fun hc80 => ?_) (fun hc80 => ?_)
      ·
        have hres : rowV (vw ls) nd.2.1.toNat (lev nd.2.1) nd.2.2.2 k = ([], 11) := by unfold rowV rowE2; rw [hra]; dsimp only; rw [if_neg (fun h => h rfl), vw_some hlk]; dsimp only; rw [if_pos (or_of80 hnd.2.1 hk hc80)]
        refine W_seq ?_
        refine W.pre (K' := [(0, _), (2, _), (4, _), (8, _), (9, _), (14, _), (15, _), (22, _), (63, _), (80, _)]) (L' := [(0, _), (101, _), (102, _)]) ?_ ⟨rfl, ⟨rfl, ⟨rfl, ⟨rfl, ⟨rfl, ⟨rfl, ⟨rfl, ⟨rfl, ⟨rfl, ⟨rfl, trivial⟩⟩⟩⟩⟩⟩⟩⟩⟩⟩ ⟨rfl, ⟨rfl, ⟨rfl, trivial⟩⟩⟩
        refine W_regL (WL_pure rfl rfl (by decide) (Pu_assign rfl rfl) (WL_pure rfl rfl (by decide) (Pu_assign rfl rfl) (WL_nil (X_then ?_))))
        refine W_ret (X_then_ret ?_)
        exact X_ret [] (Ps := []) (res2 Tryz.results83 rfl rfl) rfl (by decide) (by rw [hres]; exact ⟨rfl, fun _ => rfl, fun h => absurd h (by decide)⟩)
      ·
        have hok80 := nor_of80 hnd.2.1 hk hc80
        have hres : rowV (vw ls) nd.2.1.toNat (lev nd.2.1) nd.2.2.2 k = (p.2.drop 1, 0) := by unfold rowV rowE2; rw [hra]; dsimp only; rw [if_neg (fun h => h rfl), vw_some hlk]; dsimp only; rw [if_neg hok80]
        have hp1 : 1 ≤ p.2.length := len_of80 hok80
        refine W_skip (X_then ?_)
        refine W_seq ?_
        refine W.pre (K' := [(0, _), (2, _), (4, _), (8, _), (9, _), (14, _), (15, _), (22, _), (63, _), (80, _)]) (L' := [(0, _), (101, _), (102, _)]) ?_ ⟨rfl, ⟨rfl, ⟨rfl, ⟨rfl, ⟨rfl, ⟨rfl, ⟨rfl, ⟨rfl, ⟨rfl, ⟨rfl, trivial⟩⟩⟩⟩⟩⟩⟩⟩⟩⟩ ⟨rfl, ⟨rfl, ⟨rfl, trivial⟩⟩⟩
        refine W_regL (WL_pure rfl rfl (by decide) (Pu_move rfl rfl) (WL_pure rfl rfl (by decide) (Pu_slice (r := 0) (a := 1) rfl Tryz.runUnderlying36 Tryz.sizeOf5 rfl rfl hpd (.inr ⟨_, _, _, rfl, rfl, rfl⟩) (.inl ⟨rfl, rfl⟩) hp1 (by omega)) (WL_pure rfl rfl (by decide) (Pu_assign rfl rfl) (WL_pure rfl rfl (by decide) (Pu_assign rfl rfl) (WL_nil (X_then ?_))))))
        refine W_ret ?_
        exact X_ret [] (Ps := []) (res2 Tryz.results83 rfl rfl) rfl (by decide) (by rw [hres]; exact ⟨rfl, fun h => absurd rfl h, fun _ => ⟨_, hpm, rfl, rfl, hp1⟩⟩)
    ·
      have hlk := is_none_F hsp13
      refine W_regL (WL_pure rfl rfl (by decide) (Pu_move rfl rfl) (WL_pure rfl rfl (by decide) (Pu_loadBN (r := 102) rfl Tryz.isAgg29 Tryz.sizeOf29 rfl rfl ((bs_length _).trans hx2) (load_all ((bs_length _).trans hx2))) (WL_cons rfl rfl (by decide) (OpT_call 200 [0, 101, 102] [] rfl Tryz.call84 rfl rfl rfl (by decide) (by decide) (block_none gm ls _ (mapQ_star 0 rfl hM) x.2 hx2 hlk) (fun v59 Ps59 hR59 => ?_)))))
      obtain ⟨rfl, rfl⟩ := hR59
      refine (WL_pure rfl rfl (by decide) (Pu_move rfl rfl) (WL_pure rfl rfl (by decide) (Pu_extract rfl rfl rfl) (WL_pure rfl rfl (by decide) (Pu_extract rfl rfl rfl) (WL_pure rfl rfl (by decide) (Pu_assign rfl rfl) (WL_pure rfl rfl (by decide) (Pu_assign rfl rfl) (WL_nil (X_then ?_)))))))
      refine W_seq ?_
      refine W_seq ?_
      refine W.pre (K' := [(0, _), (2, _), (4, _), (8, _), (9, _), (14, _), (15, _), (22, _)]) (L' := [(0, _), (101, _), (102, _)]) ?_ ⟨rfl, ⟨rfl, ⟨rfl, ⟨rfl, ⟨rfl, ⟨rfl, ⟨rfl, ⟨rfl, trivial⟩⟩⟩⟩⟩⟩⟩⟩ ⟨rfl, ⟨rfl, ⟨rfl, trivial⟩⟩⟩
      refine W_regL (WL_pure rfl rfl (by decide) (Pu_move rfl rfl) (WL_pure rfl rfl (by decide) (Pu_bin rfl rfl rfl (run_neq _ _ _ _ _ _)) (WL_nil (X_then ?_))))
      refine W_true rfl (rfl) ?_
      refine W_seq ?_
      refine W.pre (K' := [(0, _), (2, _), (4, _), (8, _), (9, _), (14, _), (15, _), (22, _), (63, _)]) (L' := [(0, _), (101, _), (102, _)]) ?_ ⟨rfl, ⟨rfl, ⟨rfl, ⟨rfl, ⟨rfl, ⟨rfl, ⟨rfl, ⟨rfl, ⟨rfl, trivial⟩⟩⟩⟩⟩⟩⟩⟩⟩ ⟨rfl, ⟨rfl, ⟨rfl, trivial⟩⟩⟩
      refine W_regL (WL_pure rfl rfl (by decide) (Pu_move rfl rfl) (WL_pure rfl rfl (by decide) (Pu_assign rfl rfl) (WL_pure rfl rfl (by decide) (Pu_assign rfl rfl) (WL_nil (X_then ?_)))))
      refine W_ret (X_then_ret ?_)
      have hres : rowV (vw ls) nd.2.1.toNat (lev nd.2.1) nd.2.2.2 k = ([], 18) := by unfold rowV rowE2; rw [hra]; dsimp only; rw [if_neg (fun h => h rfl), vw_none hlk]
      exact X_ret [] (Ps := []) (res2 Tryz.results83 rfl rfl) rfl (by decide) (by rw [hres]; exact ⟨rfl, fun _ => rfl, fun h => absurd h (by decide)⟩)
end Go.Proofs.YthkdkmaacjpneaaGreatDoor
/- Trees: an inode's bytes, a directory's entries. -/
namespace Go.Proofs.YthkdkmaacjpneaaGreatDoor
open Go.RowKit
set_option linter.unusedVariables false
set_option linter.unusedSimpArgs false
set_option maxRecDepth 8000
theorem Pu_max {P : Program} {E : Env} {n : Nat} {K : Slots} {L : Res} {o : Oper} {x y : Operand} {ts : Array TypeId} {a b : Int} (ho : o.op = .call { callee := .builtin .max, args := #[x, y], argTypes := ts }) (hx : evK K x = some (.int .i64 a)) (hy : evK K y = some (.int .i64 b)) : Pure P E n o K L (.int .i64 (max a b)) := fun c w hA hS => by
  have : (if b > a then b else a) = max a b := by simp only [Int.max_def]; split <;> split <;> omega
  simp only [execOp, ho, resolve, invoke, builtin, Sem.run_bind, Sem.run_pure, Result.andThen_ok, List.map_toArray, List.map_cons, List.map_nil, hA.eval hx, hA.eval hy]
  simp [Builtin.max_, Builtin.max2, this, Result.andThen]
theorem and_of29 {a b c : Nat} (h : (decide ((a : Int) < (b : Int)) && decide ((c : Int) * 64 < (b : Int))) = true) : a < b ∧ c * 64 < b := by
  simp only [Bool.and_eq_true, decide_eq_true_eq] at h
  omega
theorem nand_of29 {a b c : Nat} (h : (decide ((a : Int) < (b : Int)) && decide ((c : Int) * 64 < (b : Int))) = false) : ¬ a < b ∨ ¬ c * 64 < b := by
  simp only [Bool.and_eq_false_iff, decide_eq_false_iff_not] at h
  omega
theorem bytesA_len (V : VW) (size lv frm to : Nat) (top : List UInt8) : ∀ (f k : Nat) (acc : List UInt8), acc.length ≤ k * 64 → (bytesA V size lv top frm to f k acc).1.length ≤ max (k * 64) (to + 64)
  | 0, k, acc, h => by rw [bytesA]; show acc.length ≤ _; omega
  | f + 1, k, acc, h => by
    by_cases hk : k * 64 < to
    · by_cases he : (rowV V size lv top k).2 = 0
      · rw [bytesA_next hk he]
        have hl := rowV_len he
        have := bytesA_len V size lv frm to top f (k + 1) (acc ++ ((rowV V size lv top k).1.take (min (to - k * 64) (rowV V size lv top k).1.length)).drop (frm - k * 64)) (by rw [List.length_append, List.length_drop, List.length_take]; omega)
        omega
      · rw [bytesA_bad hk he]; simp
    · rw [bytesA_end hk]; show acc.length ≤ _; omega
theorem bytesV_len (V : VW) (nd : Nd) (frm to : Nat) : (bytesV V nd frm to).1.length ≤ frm + to + 64 := by
  unfold bytesV
  split
  · have := bytesA_len V nd.2.1.toNat nd.2.2.1.toNat frm to nd.2.2.2 (to + 1) (frm / 64) [] (by simp)
    omega
  · simp
theorem view_bytes (gm : Nat) (ls : List LB) (F : HP) (hM : ∀ h, F h → mapQ idV ok32 gm (entsL ls) none h) (hL : ∀ p ∈ ls, ∀ h, F h → rdB p.2.1 p.2.2 h) (nd : Nd) (hnd : NdOk nd) (frm to : Nat) (hto : (to : Int) ≤ nd.2.1) (hfr : frm ≤ 1000000000000) : CallsS Tryz.prog 57 #[.map (some gm), .agg (ndC nd).toArray, .int .i64 (frm : Int), .int .i64 (to : Int)] F [] (fun r Ps => ∃ v, r = .tuple #[v, .int .i64 ((bytesV (vw ls) nd frm to).2 : Int)] ∧ Ps = [rowB 5 v (bytesV (vw ls) nd frm to).1]) := by
  obtain ⟨hk0, hs0, hs1, hlv, htl⟩ := id hnd
  have hLv : nd.2.2.1.toNat = lev nd.2.1 := by omega
  refine callsS_enter Tryz.func57 rfl Tryz.ntmps57 (by simp) (fun E => ?_)
  refine W_seq ?_
  refine W.pre (K' := [(0, _), (1, _), (2, _), (3, _)]) (L' := [(0, _)]) ?_ ⟨rfl, ⟨rfl, ⟨rfl, ⟨rfl, trivial⟩⟩⟩⟩ ⟨rfl, trivial⟩
  refine W_regL (WL_cons rfl rfl (by decide) (OpT_box (r := 101) rfl rfl rfl (fun g101 => (WL_pure rfl rfl (by decide) (Pu_assign rfl rfl) (WL_pure rfl rfl (by decide) (Pu_assign rfl rfl) (WL_nil (X_then ?_)))))))
  refine W_seq ?_
  refine W.pre (K' := [(0, _), (1, _), (2, _), (3, _), (5, _), (8, _), (9, _)]) (L' := [(0, _), (101, _)]) ?_ ⟨rfl, ⟨rfl, ⟨rfl, ⟨rfl, ⟨rfl, ⟨rfl, ⟨rfl, trivial⟩⟩⟩⟩⟩⟩⟩ ⟨rfl, ⟨rfl, trivial⟩⟩
  refine W_nilRow 2 5 1 ?_
  refine W_nilRow 3 5 1 ?_
  refine W_regL (WL_pure rfl rfl (by decide) (Pu_assign rfl rfl) (WL_nil (X_then ?_)))
  refine W_seq ?_
  refine W.pre (K' := [(0, _), (1, _), (2, _), (3, _), (5, _), (8, _), (9, _), (10, _)]) (L' := [(0, _), (2, _), (3, _), (101, _)]) ?_ ⟨rfl, ⟨rfl, ⟨rfl, ⟨rfl, ⟨rfl, ⟨rfl, ⟨rfl, ⟨rfl, trivial⟩⟩⟩⟩⟩⟩⟩⟩ ⟨rfl, ⟨rfl, ⟨rfl, ⟨rfl, trivial⟩⟩⟩⟩
  refine W_regL (WL_pure rfl rfl (by decide) (Pu_move rfl rfl) (WL_pure rfl rfl (by decide) (Pu_fieldAddrB (off := 1) rfl rfl (by kernel_rfl)) (WL_pure rfl rfl (by decide) (Pu_loadB (r := 101) rfl Tryz.isAgg3 rfl rfl rfl) (WL_pure rfl rfl (by decide) (Pu_min rfl rfl rfl) ?_))))
  rw [Int.min_eq_left hto]
  refine (WL_pure rfl rfl (by decide) (Pu_assign rfl rfl) (WL_nil (X_then ?_)))
  refine W_seq ?_
  refine W_seq ?_
  refine W.pre (K' := [(0, _), (1, _), (2, _), (3, _), (5, _), (8, _), (9, _), (10, _)]) (L' := [(0, _), (2, _), (3, _), (101, _)]) ?_ ⟨rfl, ⟨rfl, ⟨rfl, ⟨rfl, ⟨rfl, ⟨rfl, ⟨rfl, ⟨rfl, trivial⟩⟩⟩⟩⟩⟩⟩⟩ ⟨rfl, ⟨rfl, ⟨rfl, ⟨rfl, trivial⟩⟩⟩⟩
  refine W_regL (WL_pure rfl rfl (by decide) (Pu_move rfl rfl) (WL_pure rfl rfl (by decide) (Pu_bin rfl rfl rfl (run_quo _ _ _ _ _ (by omega))) ?_))
  rw [show (frm : Int) / 64 = ((frm / 64 : Nat) : Int) from rfl]
  refine (WL_pure rfl rfl (by decide) (Pu_assign rfl rfl) (WL_nil (X_then ?_)))
  refine W_block ?_
  refine W_turn (P' := rowB 5 (.slice none 0 0) []) 2 rfl (fun h hp => hp) ?_
  refine W_loop (α := Nat × Nat × Value × List UInt8) (fun x => [(0, .map (some gm)), (2, .int .i64 (frm : Int)), (3, .int .i64 (to : Int)), (5, .pointer (some ⟨g101, 0, none⟩)), (10, x.2.2.1), (11, .int .i64 (x.2.1 : Int))]) (fun x => [(0, F), (2, rowB 5 x.2.2.1 x.2.2.2), (3, rowP 5 1 (.slice none 0 0) 0 []), (101, blk g101 42 (ndC nd))]) (fun x => bytesA (vw ls) nd.2.1.toNat (lev nd.2.1) nd.2.2.2 frm to x.1 x.2.1 x.2.2.2 = bytesA (vw ls) nd.2.1.toNat (lev nd.2.1) nd.2.2.2 frm to (to + 1) (frm / 64) [] ∧ to < x.1 + x.2.1 ∧ frm / 64 ≤ x.2.1 ∧ x.2.2.2.length ≤ x.2.1 * 64 ∧ (frm < to ∨ x.2.2.2 = []) ∧ x.2.1 ≤ frm + to + 1) (fun x => x.1) ((to + 1, frm / 64, .slice none 0 0, [])) ⟨rfl, by dsimp only; omega, Nat.le_refl _, by simp, .inr rfl, by dsimp only; omega⟩ ⟨rfl, ⟨rfl, ⟨rfl, ⟨rfl, ⟨rfl, ⟨rfl, trivial⟩⟩⟩⟩⟩⟩ ⟨rfl, ⟨rfl, ⟨rfl, ⟨rfl, trivial⟩⟩⟩⟩ (fun x hx => ?_)
  obtain ⟨hx1, hx2, hx3, hx4, hx5, hx6⟩ := hx
  refine W_seq ?_
  refine W_seq ?_
  refine W.pre (K' := [(0, _), (2, _), (3, _), (5, _), (10, _), (11, _)]) (L' := [(0, _), (2, _), (3, _), (101, _)]) ?_ ⟨rfl, ⟨rfl, ⟨rfl, ⟨rfl, ⟨rfl, ⟨rfl, trivial⟩⟩⟩⟩⟩⟩ ⟨rfl, ⟨rfl, ⟨rfl, ⟨rfl, trivial⟩⟩⟩⟩
  refine W_regL (WL_pure rfl rfl (by decide) (Pu_move rfl rfl) (WL_pure rfl rfl (by decide) (Pu_move rfl rfl) (WL_pure rfl rfl (by decide) (Pu_bin rfl rfl rfl (run_lss _ _ _ _ _ _)) (WL_pure rfl rfl (by decide) (Pu_move rfl rfl) (WL_guardP rfl rfl rfl rfl (by decide) (fun hb => (Pu_move rfl rfl)) (WL_guardP rfl rfl rfl rfl (by decide) (fun hb => (Pu_bin rfl (ev_gv rfl hb) rfl (run_mul _ _ _ _ _ (by omega)))) (WL_guardP rfl rfl rfl rfl (by decide) (fun hb => (Pu_move rfl rfl)) (WL_guardP rfl rfl rfl rfl (by decide) (fun hb => (Pu_bin rfl (ev_gv rfl hb) (ev_gv rfl hb) (run_lss _ _ _ _ _ _))) (WL_pure rfl rfl (by decide) (Pu_and rfl rfl rfl) (WL_nil (X_then ?_)))))))))))
  refine W_cond rfl (fun hc29 => ?_) (fun hc29 => ?_)
  ·
    have hft := and_of29 hc29
    obtain ⟨f1, hf1⟩ : ∃ f1, x.1 = f1 + 1 := ⟨x.1 - 1, by omega⟩
    refine W_skip (X_then ?_)
    refine W_seq ?_
    refine W_block ?_
    refine W_seq ?_
    refine W.pre (K' := [(0, _), (2, _), (3, _), (5, _), (10, _), (11, _), (29, _)]) (L' := [(0, _), (2, _), (3, _), (101, _)]) ?_ ⟨rfl, ⟨rfl, ⟨rfl, ⟨rfl, ⟨rfl, ⟨rfl, ⟨rfl, trivial⟩⟩⟩⟩⟩⟩⟩ ⟨rfl, ⟨rfl, ⟨rfl, ⟨rfl, trivial⟩⟩⟩⟩
    rcases Bool.eq_false_or_eq_true (decide ((rowV (vw ls) nd.2.1.toNat (lev nd.2.1) nd.2.2.2 x.2.1).2 = 0)) with hsp6 | hsp6
    ·
      have h0 := of_decide_eq_true hsp6
      refine W_regL (WL_pure rfl rfl (by decide) (Pu_move rfl rfl) (WL_pure rfl rfl (by decide) (Pu_loadBN (r := 101) rfl Tryz.isAgg42 Tryz.sizeOf42 rfl rfl (ndC_length hnd.2.2.2.2) (load_all (ndC_length hnd.2.2.2.2))) (WL_pure rfl rfl (by decide) (Pu_move rfl rfl) (WL_cons rfl rfl (by decide) (OpT_call 200 [0, 2, 3, 101] [] rfl Tryz.call83 rfl rfl rfl (by decide) (by decide) (view_row gm ls _ (mapQ_star 0 rfl hM) (fun p0 hp0 => rd_star 0 rfl (hL p0 hp0)) nd hnd x.2.1 (by omega)) (fun v36 Ps36 hR36 => ?_))))))
      obtain ⟨rfl, _, hgood⟩ := hR36; obtain ⟨p, hpm, rfl, hpb, hpl⟩ := hgood h0
      refine (WL_pure rfl rfl (by decide) (Pu_move rfl rfl) (WL_pure rfl rfl (by decide) (Pu_extract rfl rfl rfl) (WL_pure rfl rfl (by decide) (Pu_extract rfl rfl rfl) (WL_pure rfl rfl (by decide) (Pu_assign rfl rfl) (WL_pure rfl rfl (by decide) (Pu_assign rfl rfl) (WL_nil (X_then ?_)))))))
      refine W_seq ?_
      refine W_seq ?_
      refine W.pre (K' := [(0, _), (2, _), (3, _), (5, _), (10, _), (11, _), (12, _), (13, _), (29, _)]) (L' := [(0, _), (2, _), (3, _), (101, _)]) ?_ ⟨rfl, ⟨rfl, ⟨rfl, ⟨rfl, ⟨rfl, ⟨rfl, ⟨rfl, ⟨rfl, ⟨rfl, trivial⟩⟩⟩⟩⟩⟩⟩⟩⟩ ⟨rfl, ⟨rfl, ⟨rfl, ⟨rfl, trivial⟩⟩⟩⟩
      refine W_regL (WL_pure rfl rfl (by decide) (Pu_move rfl rfl) (WL_pure rfl rfl (by decide) (Pu_bin rfl rfl rfl (run_neq _ _ _ _ _ _)) (WL_nil (X_then ?_))))
      refine W_false rfl (rfl) ?_
      refine W_skip (X_then ?_)
      refine W_seq ?_
      refine W.pre (K' := [(0, _), (2, _), (3, _), (5, _), (10, _), (11, _), (12, _), (13, _), (29, _), (40, _)]) (L' := [(0, _), (2, _), (3, _), (101, _)]) ?_ ⟨rfl, ⟨rfl, ⟨rfl, ⟨rfl, ⟨rfl, ⟨rfl, ⟨rfl, ⟨rfl, ⟨rfl, ⟨rfl, trivial⟩⟩⟩⟩⟩⟩⟩⟩⟩⟩ ⟨rfl, ⟨rfl, ⟨rfl, ⟨rfl, trivial⟩⟩⟩⟩
      refine W_regL (WL_pure rfl rfl (by decide) (Pu_move rfl rfl) (WL_pure rfl rfl (by decide) (Pu_bin rfl rfl rfl (run_mul _ _ _ _ _ (by omega))) (WL_pure rfl rfl (by decide) (Pu_assign rfl rfl) (WL_nil (X_then ?_)))))
      refine W.pre (K' := [(0, _), (2, _), (3, _), (5, _), (10, _), (11, _), (12, _), (13, _), (14, _), (29, _), (40, _)]) (L' := [(0, _), (2, _), (3, _), (101, _)]) ?_ ⟨rfl, ⟨rfl, ⟨rfl, ⟨rfl, ⟨rfl, ⟨rfl, ⟨rfl, ⟨rfl, ⟨rfl, ⟨rfl, ⟨rfl, trivial⟩⟩⟩⟩⟩⟩⟩⟩⟩⟩⟩ ⟨rfl, ⟨rfl, ⟨rfl, ⟨rfl, trivial⟩⟩⟩⟩
      have hdl : (p.2.2.drop 1).length = min 64 (nd.2.1.toNat - x.2.1 * 64) := by rw [← hpb]; exact rowV_len h0
      obtain ⟨aa, haa⟩ : ∃ aa : Nat, aa = frm - x.2.1 * 64 := ⟨_, rfl⟩
      obtain ⟨bb, hbb⟩ : ∃ bb : Nat, bb = min (to - x.2.1 * 64) (p.2.2.drop 1).length := ⟨_, rfl⟩
      have hab : aa ≤ bb := by omega
      have hbm : bb ≤ (p.2.2.drop 1).length := by omega
      obtain ⟨pc, hpc⟩ : ∃ pc : List UInt8, pc = ((p.2.2.drop 1).take bb).drop aa := ⟨_, rfl⟩
      have hpcl : pc.length ≤ 64 := by rw [hpc, List.length_drop, List.length_take]; omega
      have hpce : ((p.2.2.drop 1).drop aa).take (bb - aa) = pc := by rw [hpc, List.drop_take]
      refine W_regL (WL_pure rfl rfl (by decide) (Pu_move rfl rfl) (WL_pure rfl rfl (by decide) (Pu_move rfl rfl) (WL_pure rfl rfl (by decide) (Pu_move rfl rfl) (WL_pure rfl rfl (by decide) (Pu_move rfl rfl) (WL_pure rfl rfl (by decide) (Pu_bin rfl rfl rfl (run_sub _ _ _ _ _ (by omega))) (WL_pure rfl rfl (by decide) (Pu_max rfl rfl rfl) ?_))))))
      rw [show max ((frm : Int) - (x.2.1 : Int) * 64) 0 = (aa : Int) by omega]
      refine (WL_pure rfl rfl (by decide) (Pu_move rfl rfl) (WL_pure rfl rfl (by decide) (Pu_move rfl rfl) (WL_pure rfl rfl (by decide) (Pu_bin rfl rfl rfl (run_sub _ _ _ _ _ (by omega))) (WL_pure rfl rfl (by decide) (Pu_move rfl rfl) (WL_pure rfl rfl (by decide) (Pu_len (r := 0) rfl Tryz.runUnderlying36 rfl rfl (fun h hp => rdB_tail (hL p hpm h hp) hpl)) (WL_pure rfl rfl (by decide) (Pu_min rfl rfl rfl) ?_))))))
      rw [show min ((to : Int) - (x.2.1 : Int) * 64) (((p.2.2.drop 1).length : Nat) : Int) = (bb : Int) by omega]
      refine (WL_pure rfl rfl (by decide) (Pu_slice (r := 0) (a := aa) (b := bb) rfl Tryz.runUnderlying36 Tryz.sizeOf5 rfl rfl (fun h hp => rdB_tail (hL p hpm h hp) hpl) (.inr ⟨_, _, _, rfl, rfl, rfl⟩) (.inr ⟨_, _, _, rfl, rfl, rfl⟩) hab hbm) (WL_cons rfl rfl (by decide) (OpT_append (r := 2) (r2 := 0) rfl Tryz.underlying36 TI.hi5 TI.hz5 TI.hs5 TI.hby5 TI.hzs5 (by decide) rfl rfl rfl rfl (fun h hp => rdB_subE (rdB_tail (hL p hpm h hp) hpl) hab hbm hpce) (bs_one _) (by unfold maxLen; omega) (by omega) (fun v57 => ?_))))
      refine WL_turn (P' := rowB 5 v57 (x.2.2.2 ++ pc)) (r := 2) rfl (fun h hp => rowB_mk hp (by rw [List.length_append]) (by rw [bs_append])) ?_
      refine (WL_pure rfl rfl (by decide) (Pu_assign rfl rfl) (WL_nil (X_block (X_then ?_))))
      refine W.pre (K' := [(0, _), (2, _), (3, _), (5, _), (10, _), (11, _), (12, _), (13, _), (14, _), (29, _), (40, _)]) (L' := [(0, _), (2, _), (3, _), (101, _)]) ?_ ⟨rfl, ⟨rfl, ⟨rfl, ⟨rfl, ⟨rfl, ⟨rfl, ⟨rfl, ⟨rfl, ⟨rfl, ⟨rfl, ⟨rfl, trivial⟩⟩⟩⟩⟩⟩⟩⟩⟩⟩⟩ ⟨rfl, ⟨rfl, ⟨rfl, ⟨rfl, trivial⟩⟩⟩⟩
      refine W_regL (WL_pure rfl rfl (by decide) (Pu_move rfl rfl) (WL_pure rfl rfl (by decide) (Pu_bin rfl rfl rfl (run_add _ _ _ _ _ (by omega))) (WL_pure rfl rfl (by decide) (Pu_assign rfl rfl) (WL_nil ?_))))
      exact X_round (f1, x.2.1 + 1, v57, x.2.2.2 ++ pc) ⟨by rw [← hx1, hf1, bytesA_next hft.2 h0, hpb, hpc, haa, hbb], by dsimp only; omega, by dsimp only; omega, by dsimp only; rw [List.length_append]; omega, .inl hft.1, by dsimp only; omega⟩ (by dsimp only; omega) ⟨rfl, rfl, rfl, rfl, rfl, rfl, trivial⟩ ⟨rfl, rfl, rfl, rfl, trivial⟩
    ·
      have h0 := of_decide_eq_false hsp6
      refine W_regL (WL_pure rfl rfl (by decide) (Pu_move rfl rfl) (WL_pure rfl rfl (by decide) (Pu_loadBN (r := 101) rfl Tryz.isAgg42 Tryz.sizeOf42 rfl rfl (ndC_length hnd.2.2.2.2) (load_all (ndC_length hnd.2.2.2.2))) (WL_pure rfl rfl (by decide) (Pu_move rfl rfl) (WL_cons rfl rfl (by decide) (OpT_call 200 [0, 2, 3, 101] [] rfl Tryz.call83 rfl rfl rfl (by decide) (by decide) (view_row gm ls _ (mapQ_star 0 rfl hM) (fun p0 hp0 => rd_star 0 rfl (hL p0 hp0)) nd hnd x.2.1 (by omega)) (fun v36 Ps36 hR36 => ?_))))))
      obtain ⟨rfl, hbad, _⟩ := hR36; have hv36 := hbad h0; subst hv36
      refine (WL_pure rfl rfl (by decide) (Pu_move rfl rfl) (WL_pure rfl rfl (by decide) (Pu_extract rfl rfl rfl) (WL_pure rfl rfl (by decide) (Pu_extract rfl rfl rfl) (WL_pure rfl rfl (by decide) (Pu_assign rfl rfl) (WL_pure rfl rfl (by decide) (Pu_assign rfl rfl) (WL_nil (X_then ?_)))))))
      refine W_seq ?_
      refine W_seq ?_
      refine W.pre (K' := [(0, _), (2, _), (3, _), (5, _), (10, _), (11, _), (12, _), (13, _), (29, _)]) (L' := [(0, _), (2, _), (3, _), (101, _)]) ?_ ⟨rfl, ⟨rfl, ⟨rfl, ⟨rfl, ⟨rfl, ⟨rfl, ⟨rfl, ⟨rfl, ⟨rfl, trivial⟩⟩⟩⟩⟩⟩⟩⟩⟩ ⟨rfl, ⟨rfl, ⟨rfl, ⟨rfl, trivial⟩⟩⟩⟩
      refine W_regL (WL_pure rfl rfl (by decide) (Pu_move rfl rfl) (WL_pure rfl rfl (by decide) (Pu_bin rfl rfl rfl (run_neq _ _ _ _ _ _)) (WL_nil (X_then ?_))))
      refine W_true rfl ((by simpa using h0)) ?_
      refine W_seq ?_
      refine W.pre (K' := [(0, _), (2, _), (3, _), (5, _), (10, _), (11, _), (12, _), (13, _), (29, _), (40, _)]) (L' := [(0, _), (2, _), (3, _), (101, _)]) ?_ ⟨rfl, ⟨rfl, ⟨rfl, ⟨rfl, ⟨rfl, ⟨rfl, ⟨rfl, ⟨rfl, ⟨rfl, ⟨rfl, trivial⟩⟩⟩⟩⟩⟩⟩⟩⟩⟩ ⟨rfl, ⟨rfl, ⟨rfl, ⟨rfl, trivial⟩⟩⟩⟩
      refine W_regL (WL_pure rfl rfl (by decide) (Pu_move rfl rfl) (WL_pure rfl rfl (by decide) (Pu_assign rfl rfl) (WL_pure rfl rfl (by decide) (Pu_assign rfl rfl) (WL_nil (X_then ?_)))))
      refine W_ret (X_then_ret (X_block_ret (X_then_ret (X_then_ret (X_block_ret (X_then_ret ?_))))))
      have hres : bytesV (vw ls) nd frm to = ([], (rowV (vw ls) nd.2.1.toNat (lev nd.2.1) nd.2.2.2 x.2.1).2) := by unfold bytesV; rw [if_pos hft.1, hLv, ← hx1, hf1, bytesA_bad hft.2 h0]
      exact X_ret [3] (Ps := [_]) (res2 Tryz.results57 rfl rfl) rfl (by decide) ⟨.slice none 0 0, by rw [hres] <;> rfl, by rw [hres] <;> rfl⟩
  ·
    have hft := nand_of29 hc29
    refine W_exit (X_then_exit (X_then_exit (X_block_exit (X_then ?_))))
    refine W_seq ?_
    refine W.pre (K' := [(0, _), (2, _), (3, _), (5, _), (10, _), (11, _), (29, _)]) (L' := [(0, _), (2, _), (3, _), (101, _)]) ?_ ⟨rfl, ⟨rfl, ⟨rfl, ⟨rfl, ⟨rfl, ⟨rfl, ⟨rfl, trivial⟩⟩⟩⟩⟩⟩⟩ ⟨rfl, ⟨rfl, ⟨rfl, ⟨rfl, trivial⟩⟩⟩⟩
    refine W_regL (WL_pure rfl rfl (by decide) (Pu_move rfl rfl) (WL_pure rfl rfl (by decide) (Pu_assign rfl rfl) (WL_pure rfl rfl (by decide) (Pu_assign rfl rfl) (WL_nil (X_then ?_)))))
    refine W_ret ?_
    have hres : bytesV (vw ls) nd frm to = (x.2.2.2, 0) := by
      unfold bytesV
      by_cases hlt : frm < to
      · rw [if_pos hlt, hLv, ← hx1, bytesA_end (by omega)]
      · rw [if_neg hlt]; rcases hx5 with h5 | h5
        · exact absurd h5 hlt
        · rw [h5]
    exact X_ret [2] (Ps := [_]) (res2 Tryz.results57 rfl rfl) rfl (by decide) ⟨x.2.2.1, by rw [hres] <;> rfl, by rw [hres] <;> rfl⟩
theorem view_folder (gm : Nat) (ls : List LB) (F : HP) (hM : ∀ h, F h → mapQ idV ok32 gm (entsL ls) none h) (hL : ∀ p ∈ ls, ∀ h, F h → rdB p.2.1 p.2.2 h) (hT : ∀ h, F h → tabsP h) (nd : Nd) (hnd : NdOk nd) : CallsS Tryz.prog 56 #[.map (some gm), .agg (ndC nd).toArray] F [] (fun r Ps => ∃ v, r = .tuple #[v, .int .i64 ((dirV (vw ls) nd).2 : Int)] ∧ Ps = [rowE 122 v (dirV (vw ls) nd).1]) := by
  refine callsS_enter Tryz.func56 rfl Tryz.ntmps56 (by simp) (fun E => ?_)
  refine W_seq ?_
  refine W.pre (K' := [(0, _), (1, _)]) (L' := [(0, _)]) ?_ ⟨rfl, ⟨rfl, trivial⟩⟩ ⟨rfl, trivial⟩
  refine W_regL (WL_cons rfl rfl (by decide) (OpT_box (r := 101) rfl rfl rfl (fun g101 => (WL_pure rfl rfl (by decide) (Pu_assign rfl rfl) (WL_pure rfl rfl (by decide) (Pu_assign rfl rfl) (WL_nil (X_then ?_)))))))
  refine W_seq ?_
  refine W_seq ?_
  refine W.pre (K' := [(0, _), (1, _), (3, _), (4, _), (5, _)]) (L' := [(0, _), (101, _)]) ?_ ⟨rfl, ⟨rfl, ⟨rfl, ⟨rfl, ⟨rfl, trivial⟩⟩⟩⟩⟩ ⟨rfl, ⟨rfl, trivial⟩⟩
  refine W_nilRow 2 122 33 ?_
  refine W_regL (WL_pure rfl rfl (by decide) (Pu_fieldAddrB (off := 0) rfl rfl (by kernel_rfl)) (WL_pure rfl rfl (by decide) (Pu_loadB (r := 101) rfl Tryz.isAgg3 rfl rfl rfl) (WL_pure rfl rfl (by decide) (Pu_bin rfl rfl rfl (run_neq _ _ _ _ _ _)) (WL_nil (X_then ?_)))))
  refine W_cond rfl (fun hc10 => ?_) (fun hc10 => ?_)
  ·
    have hres : dirV (vw ls) nd = ([], 3) := by unfold dirV; rw [if_pos (by simpa using hc10)]
    refine W_seq ?_
    refine W.pre (K' := [(0, _), (1, _), (3, _), (4, _), (5, _), (10, _)]) (L' := [(0, _), (2, _), (101, _)]) ?_ ⟨rfl, ⟨rfl, ⟨rfl, ⟨rfl, ⟨rfl, ⟨rfl, trivial⟩⟩⟩⟩⟩⟩ ⟨rfl, ⟨rfl, ⟨rfl, trivial⟩⟩⟩
    refine W_regL (WL_pure rfl rfl (by decide) (Pu_assign rfl rfl) (WL_pure rfl rfl (by decide) (Pu_assign rfl rfl) (WL_nil (X_then ?_))))
    refine W_ret (X_then_ret ?_)
    exact X_ret [2] (Ps := [_]) (res2 Tryz.results56 rfl rfl) rfl (by decide) ⟨.slice none 0 0, by rw [hres] <;> rfl, by rw [hres] <;> rfl⟩
  ·
    have hk2 : nd.1 = 2 := by simpa using hc10
    refine W_skip (X_then ?_)
    refine W_seq ?_
    refine W.pre (K' := [(0, _), (1, _), (3, _), (4, _), (5, _), (10, _)]) (L' := [(0, _), (2, _), (101, _)]) ?_ ⟨rfl, ⟨rfl, ⟨rfl, ⟨rfl, ⟨rfl, ⟨rfl, trivial⟩⟩⟩⟩⟩⟩ ⟨rfl, ⟨rfl, ⟨rfl, trivial⟩⟩⟩
    refine W_regL (WL_pure rfl rfl (by decide) (Pu_move rfl rfl) (WL_pure rfl rfl (by decide) (Pu_loadBN (r := 101) rfl Tryz.isAgg42 Tryz.sizeOf42 rfl rfl (ndC_length hnd.2.2.2.2) (load_all (ndC_length hnd.2.2.2.2))) (WL_pure rfl rfl (by decide) (Pu_fieldAddrB (off := 1) rfl rfl (by kernel_rfl)) (WL_pure rfl rfl (by decide) (Pu_loadB (r := 101) rfl Tryz.isAgg3 rfl rfl (show (ndC nd)[1]? = some (.int .i64 ((nd.2.1.toNat : Nat) : Int)) by rw [Int.toNat_of_nonneg hnd.2.1]; rfl)) (WL_cons rfl rfl (by decide) (OpT_call 200 [0, 2, 101] [] rfl Tryz.call57 rfl rfl rfl (by decide) (by decide) (view_bytes gm ls _ (mapQ_star 0 rfl hM) (fun p0 hp0 => rd_star 0 rfl (hL p0 hp0)) nd hnd 0 nd.2.1.toNat (by have := hnd.2.1; omega) (by decide)) (fun v16 Ps16 hR16 => ?_)))))))
    obtain ⟨w16, rfl, rfl⟩ := hR16
    skip
    refine (WL_pure rfl rfl (by decide) (Pu_move rfl rfl) (WL_pure rfl rfl (by decide) (Pu_extract rfl rfl rfl) (WL_pure rfl rfl (by decide) (Pu_extract rfl rfl rfl) (WL_pure rfl rfl (by decide) (Pu_assign rfl rfl) (WL_pure rfl rfl (by decide) (Pu_assign rfl rfl) (WL_nil (X_then ?_)))))))
    refine W_seq ?_
    refine W_seq ?_
    refine W.pre (K' := [(0, _), (1, _), (3, _), (4, _), (5, _), (6, _), (7, _), (10, _)]) (L' := [(0, _), (2, _), (101, _), (200, _)]) ?_ ⟨rfl, ⟨rfl, ⟨rfl, ⟨rfl, ⟨rfl, ⟨rfl, ⟨rfl, ⟨rfl, trivial⟩⟩⟩⟩⟩⟩⟩⟩ ⟨rfl, ⟨rfl, ⟨rfl, ⟨rfl, trivial⟩⟩⟩⟩
    refine W_regL (WL_pure rfl rfl (by decide) (Pu_move rfl rfl) (WL_pure rfl rfl (by decide) (Pu_bin rfl rfl rfl (run_neq _ _ _ _ _ _)) (WL_nil (X_then ?_))))
    refine W_cond rfl (fun hc20 => ?_) (fun hc20 => ?_)
    ·
      have hb0 : (bytesV (vw ls) nd 0 nd.2.1.toNat).2 ≠ 0 := by simpa using hc20
      have hres : dirV (vw ls) nd = ([], (bytesV (vw ls) nd 0 nd.2.1.toNat).2) := by unfold dirV; rw [if_neg (fun h => h hk2), if_pos hb0]
      refine W_seq ?_
      refine W.pre (K' := [(0, _), (1, _), (3, _), (4, _), (5, _), (6, _), (7, _), (10, _), (20, _)]) (L' := [(0, _), (2, _), (101, _), (200, _)]) ?_ ⟨rfl, ⟨rfl, ⟨rfl, ⟨rfl, ⟨rfl, ⟨rfl, ⟨rfl, ⟨rfl, ⟨rfl, trivial⟩⟩⟩⟩⟩⟩⟩⟩⟩ ⟨rfl, ⟨rfl, ⟨rfl, ⟨rfl, trivial⟩⟩⟩⟩
      refine W_regL (WL_pure rfl rfl (by decide) (Pu_move rfl rfl) (WL_pure rfl rfl (by decide) (Pu_assign rfl rfl) (WL_pure rfl rfl (by decide) (Pu_assign rfl rfl) (WL_nil (X_then ?_)))))
      refine W_ret (X_then_ret ?_)
      exact X_ret [2] (Ps := [_]) (res2 Tryz.results56 rfl rfl) rfl (by decide) ⟨.slice none 0 0, by rw [hres] <;> rfl, by rw [hres] <;> rfl⟩
    ·
      have hb0 : (bytesV (vw ls) nd 0 nd.2.1.toNat).2 = 0 := by simpa using hc20
      have hres : dirV (vw ls) nd = par (bytesV (vw ls) nd 0 nd.2.1.toNat).1 [] := by unfold dirV; rw [if_neg (fun h => h hk2), if_neg (fun h => h hb0)]
      have hbl : (bytesV (vw ls) nd 0 nd.2.1.toNat).1.length ≤ 2000000 := by have h1 := bytesV_len (vw ls) nd 0 nd.2.1.toNat; have h2 := hnd.2.2.1; omega
      refine W_skip (X_then ?_)
      refine W_seq ?_
      refine W.pre (K' := [(0, _), (1, _), (3, _), (4, _), (5, _), (6, _), (7, _), (10, _), (20, _)]) (L' := [(0, _), (2, _), (101, _), (200, _)]) ?_ ⟨rfl, ⟨rfl, ⟨rfl, ⟨rfl, ⟨rfl, ⟨rfl, ⟨rfl, ⟨rfl, ⟨rfl, trivial⟩⟩⟩⟩⟩⟩⟩⟩⟩ ⟨rfl, ⟨rfl, ⟨rfl, ⟨rfl, trivial⟩⟩⟩⟩
      refine W_regL (WL_pure rfl rfl (by decide) (Pu_move rfl rfl) (WL_cons rfl rfl (by decide) (OpT_call 300 [0, 2, 101, 200] [] rfl Tryz.call82 rfl rfl rfl (by decide) (by decide) (parseDir_spec w16 (bytesV (vw ls) nd 0 nd.2.1.toNat).1 hbl _ (rd_star 3 rfl rowB_rd) (tabs_star 0 rfl hT)) (fun v23 Ps23 hR23 => ?_))))
      obtain ⟨w23, rfl, rfl⟩ := hR23
      skip
      refine (WL_pure rfl rfl (by decide) (Pu_extract rfl rfl rfl) (WL_pure rfl rfl (by decide) (Pu_extract rfl rfl rfl) (WL_pure rfl rfl (by decide) (Pu_assign rfl rfl) (WL_pure rfl rfl (by decide) (Pu_assign rfl rfl) (WL_nil (X_then ?_))))))
      refine W_ret ?_
      exact X_ret [300] (Ps := [_]) (res2 Tryz.results56 rfl rfl) rfl (by decide) ⟨w23, by rw [hres] <;> rfl, by rw [hres] <;> rfl⟩
end Go.Proofs.YthkdkmaacjpneaaGreatDoor
/- Trees: an inode is found by its path. -/
namespace Go.Proofs.YthkdkmaacjpneaaGreatDoor
open Go.RowKit
set_option linter.unusedVariables false
set_option linter.unusedSimpArgs false
set_option maxRecDepth 8000
section
variable {P : Program} {E : Env} {n : Nat} {K : Slots} {L : Res} {o : Oper} {C : Value → Res → Prop}
/-- A call of a closure. -/
theorem OpT_callV {f : FuncId} {x : Operand} {cap : List Value} {xs : List Operand} {vs : List Value} {ts : Array TypeId} {R : Value → List HP → Prop} (b : Nat) (J Cs : List Nat) {Js Ps : List HP}
    (ho : o.op = .call { callee := .value x, args := xs.toArray, argTypes := ts }) (hf : evK K x = some (.func (.func f) #[] cap.toArray)) (hc : ∀ args w, (callFunc f args).run P w = .ok (.enter f args) w) (hx : evL K xs = some vs)
    (hJ : lookL L J = some Js) (hC : lookL L Cs = some Ps) (hn : (J ++ Cs).Nodup) (hb : ∀ j ∈ J, j < b)
    (spec : CallsS P f (vs ++ cap).toArray (starL Js) Ps R) (k : ∀ v Ps', R v Ps' → C v (En b Ps' ++ zipR J Js)) : OpT P E n o K L C := fun a w Kc Q hA hS hK => by
  have hargs := evArgs hA (evL_map hx)
  have hrun : (execOp a.eval o).run P w = .ok (.enter f (vs ++ cap).toArray) w := by
    have : (xs.toArray.map a.eval) = vs.toArray := by simp [hargs]
    have h2 : vs.toArray ++ cap.toArray = (vs ++ cap).toArray := by simp
    simp only [execOp, ho, resolve, hA.eval hf, this, Deferred.ofValue, Sem.run_bind, Sem.run_pure, Result.andThen_ok, invoke, Array.empty_append, hc, h2]
  unfold Oper.wp
  rw [hrun]
  refine (spec E w (hS.pack (.of hJ) (.of hC) hn)).mono fun e w' ⟨v, Ps', he, hR, hS'⟩ => ?_
  subst he
  exact hK _ _ _ (k v Ps' hR) (hS'.unpack b (List.nodup_append.1 hn).1 hb)
end
theorem cell_star {Js : List HP} {g : Nat} {t : TypeId} {cs : List Value} {v : Value} (k : Nat) (hk : Js[k]? = some (blk g t cs)) (hv : cs[0]? = some v) : ∀ h, starL Js h → cellH h ⟨g, 0, none⟩ = some v := fun h ⟨hs, h1, _, h3⟩ => by
  have h4 := h1 k _ hk
  unfold Proofs.YthkdkmaacjpneaaGreatDoor.blk at h4
  have h5 := h3 k _ _ h4
  simp only [cellH, h5]
  simpa using hv
theorem cell_up {Js : List HP} {P : HP} {g : Nat} {v : Value} (k : Nat) (hk : Js[k]? = some P) (hP : ∀ h, P h → cellH h ⟨g, 0, none⟩ = some v) : ∀ h, starL Js h → cellH h ⟨g, 0, none⟩ = some v := fun h ⟨hs, h1, _, h3⟩ => by
  have h4 := hP _ (h1 k _ hk)
  simp only [cellH] at h4 ⊢
  cases hg : hs k g with
  | none => rw [hg] at h4; simp at h4
  | some o => rw [hg] at h4; rw [h3 k _ _ hg]; exact h4
theorem ent_node {es : List Ent} (hE : Ents es) {k : Nat} (hk : k < es.length) : ((recC entF es).drop (k * 33 + 1)).take 32 = bs (es.getD k ent0).2 := by
  have h := ent_all hE hk
  have e : ((recC entF es).drop (k * 33 + 1)).take 32 = (((recC entF es).drop (k * 33)).take 33).drop 1 := by
    rw [List.drop_take, List.drop_drop]
  rw [e, h]
  rfl
/-- Where a name stands, or -1. -/
def idxE (m : List UInt8) (es : List Ent) : Option Nat := es.findIdx? fun x => decide (x.1 = m)
theorem idxE_find (m : List UInt8) : ∀ es : List Ent, match idxE m es with
    | none => es.find? (fun x => decide (x.1 = m)) = none
    | some i => i < es.length ∧ es.find? (fun x => decide (x.1 = m)) = some (es.getD i ent0)
  | [] => by simp [idxE]
  | x :: es => by
    have ih := idxE_find m es
    unfold idxE at ih ⊢
    rw [List.findIdx?_cons]
    by_cases h : x.1 = m
    · simp [h]
    · simp only [h, decide_false, Bool.false_eq_true, if_false]
      cases hh : es.findIdx? (fun x => decide (x.1 = m)) with
      | none => rw [hh] at ih; simp [h, ih]
      | some i => rw [hh] at ih; simp [h, ih]
theorem idxE_step {m : List UInt8} {es : List Ent} {k : Nat} (hk : k < es.length) (h : idxE m es = (idxE m (es.drop k)).map (· + k)) (hne : ¬ (es.getD k ent0).1 = m) : idxE m es = (idxE m (es.drop (k + 1))).map (· + (k + 1)) := by
  rw [h, List.drop_eq_getElem_cons hk]
  have : ¬ es[k].1 = m := by simpa [hk] using hne
  unfold idxE
  rw [List.findIdx?_cons]
  simp only [this, decide_false, Bool.false_eq_true, if_false, Option.map_map]
  congr 1
  funext a
  show a + 1 + k = _
  omega
theorem idxE_here {m : List UInt8} {es : List Ent} {k : Nat} (hk : k < es.length) (h : idxE m es = (idxE m (es.drop k)).map (· + k)) (he : (es.getD k ent0).1 = m) : idxE m es = some k := by
  rw [h, List.drop_eq_getElem_cons hk]
  have : es[k].1 = m := by simpa [hk] using he
  unfold idxE
  rw [List.findIdx?_cons]
  simp [this]
theorem idxE_end {m : List UInt8} {es : List Ent} {k : Nat} (hk : es.length ≤ k) (h : idxE m es = (idxE m (es.drop k)).map (· + k)) : idxE m es = none := by
  rw [h, List.drop_of_length_le hk]
  rfl
def idxV (o : Option Nat) : Int := match o with
  | none => -1
  | some i => (i : Int)
theorem beq_dec (a b : List UInt8) : (a == b) = decide (a = b) := by by_cases h : a = b <;> simp [h]
theorem entF_len {e : Ent} (h : e.2.length = 32) : (entF e).length = 33 := entC_length h
theorem not_decE {a : Int} (h : (!decide (a = 0)) = false) : a = 0 := by simpa using h
theorem dirV_ents (V : VW) (n : Nd) (hn : NdOk n) : Ents (dirV V n).1 ∧ (dirV V n).1.length ≤ 1000000000 := by
  unfold dirV
  split
  · exact ⟨Ents.nil, by simp⟩
  · split
    · exact ⟨Ents.nil, by simp⟩
    · have h1 := par_len _ (bytesV V n 0 n.2.1.toNat).1 [] (Nat.le_refl _)
      have h2 := bytesV_len V n 0 n.2.1.toNat
      have h3 := hn.2.2.1
      refine ⟨h1.2 Ents.nil, ?_⟩
      have := h1.1
      simp only [List.length_nil] at this
      omega
theorem clos_spec (e : Ent) (g : Nat) (m : List UInt8) (F : HP) (hC : ∀ h, F h → cellH h ⟨g, 0, none⟩ = some (sV m)) : CallsS Tryz.prog 74 #[.agg (entF e).toArray, .pointer (some ⟨g, 0, none⟩)] F [] (fun r Ps => r = .bool (decide (e.1 = m)) ∧ Ps = []) := by
  refine callsS_enter Tryz.func74 rfl Tryz.ntmps74 (by simp) (fun E => ?_)
  refine W_seq ?_
  refine W.pre (K' := [(0, _), (1, _)]) (L' := [(0, _)]) ?_ ⟨rfl, ⟨rfl, trivial⟩⟩ ⟨rfl, trivial⟩
  refine W_regL (WL_cons rfl rfl (by decide) (OpT_box (r := 101) rfl rfl rfl (fun g101 => (WL_pure rfl rfl (by decide) (Pu_assign rfl rfl) (WL_nil (X_then ?_))))))
  refine W_seq ?_
  refine W.pre (K' := [(0, _), (1, _), (2, _), (3, _)]) (L' := [(0, _), (101, _)]) ?_ ⟨rfl, ⟨rfl, ⟨rfl, ⟨rfl, trivial⟩⟩⟩⟩ ⟨rfl, ⟨rfl, trivial⟩⟩
  refine W_regL (WL_pure rfl rfl (by decide) (Pu_fieldAddrB (off := 0) rfl rfl (by kernel_rfl)) (WL_pure rfl rfl (by decide) (Pu_loadB (r := 101) rfl Tryz.isAgg9 rfl rfl rfl) (WL_pure rfl rfl (by decide) (Pu_load1 (r := 0) rfl Tryz.isAgg9 rfl rfl hC) (WL_pure rfl rfl (by decide) (Pu_bin rfl rfl rfl (run_strEq _ _ _ _ _)) (WL_pure rfl rfl (by decide) (Pu_assign rfl rfl) (WL_nil (X_then ?_)))))))
  refine W_ret ?_
  exact X_ret [] (Ps := []) (res1 Tryz.results74 rfl) rfl (by decide) ⟨by rw [beq_dec], rfl⟩
theorem index_spec (v : Value) (es : List Ent) (hE : Ents es) (hel : es.length ≤ 1000000000) (g : Nat) (m : List UInt8) (F : HP) (hF : ∀ h, F h → rdE v es h) (hC : ∀ h, F h → cellH h ⟨g, 0, none⟩ = some (sV m)) : CallsS Tryz.prog 73 #[v, .func (.func 74) #[] #[.pointer (some ⟨g, 0, none⟩)]] F [] (fun r Ps => r = .int .i64 (idxV (idxE m es)) ∧ Ps = []) := by
  refine callsS_enter Tryz.func73 rfl Tryz.ntmps73 (by simp) (fun E => ?_)
  refine W_seq ?_
  refine W.pre (K' := [(0, _), (1, _)]) (L' := [(0, _)]) ?_ ⟨rfl, ⟨rfl, trivial⟩⟩ ⟨rfl, trivial⟩
  refine W_regL (WL_pure rfl rfl (by decide) (Pu_assign rfl rfl) (WL_nil (X_then ?_)))
  refine W_seq ?_
  refine W_seq ?_
  refine W.pre (K' := [(0, _), (1, _), (4, _)]) (L' := [(0, _)]) ?_ ⟨rfl, ⟨rfl, ⟨rfl, trivial⟩⟩⟩ ⟨rfl, trivial⟩
  refine W_regL (WL_pure rfl rfl (by decide) (Pu_move rfl rfl) (WL_pure rfl rfl (by decide) (Pu_len (r := 0) rfl Tryz.runUnderlying118 rfl rfl hF) (WL_pure rfl rfl (by decide) (Pu_move rfl rfl) (WL_nil (X_then ?_)))))
  refine W_block ?_
  refine W_loop (α := Nat) (fun x => [(0, v), (1, .func (.func 74) #[] #[.pointer (some ⟨g, 0, none⟩)]), (7, .int .i64 (es.length : Int)), (8, .int .i64 (x : Int))]) (fun x => [(0, F)]) (fun x => x ≤ es.length ∧ idxE m es = (idxE m (es.drop x)).map (· + x)) (fun x => es.length - x) (0) ⟨Nat.zero_le _, by simp⟩ ⟨rfl, ⟨rfl, ⟨rfl, ⟨rfl, trivial⟩⟩⟩⟩ ⟨rfl, trivial⟩ (fun x hx => ?_)
  obtain ⟨hx, hxi⟩ := hx
  refine W_seq ?_
  refine W.pre (K' := [(0, _), (1, _), (7, _), (8, _)]) (L' := [(0, _)]) ?_ ⟨rfl, ⟨rfl, ⟨rfl, ⟨rfl, trivial⟩⟩⟩⟩ ⟨rfl, trivial⟩
  refine W_regL (WL_pure rfl rfl (by decide) (Pu_bin rfl rfl rfl (run_lss _ _ _ _ _ _)) (WL_nil (X_then ?_)))
  refine W_seq ?_
  refine W_cond rfl (fun hc9 => ?_) (fun hc9 => ?_)
  ·
    have hlt : x < es.length := by have := of_decide_eq_true hc9; omega
    refine W_skip (X_then ?_)
    refine W_seq ?_
    refine W_block ?_
    refine W_seq ?_
    refine W.pre (K' := [(0, _), (1, _), (7, _), (8, _), (9, _)]) (L' := [(0, _)]) ?_ ⟨rfl, ⟨rfl, ⟨rfl, ⟨rfl, ⟨rfl, trivial⟩⟩⟩⟩⟩ ⟨rfl, trivial⟩
    refine W_regL (WL_pure rfl rfl (by decide) (Pu_move rfl rfl) (WL_pure rfl rfl (by decide) (Pu_assign rfl rfl) (WL_nil (X_then ?_))))
    refine W_seq ?_
    refine W.pre (K' := [(0, _), (1, _), (5, _), (7, _), (8, _), (9, _)]) (L' := [(0, _)]) ?_ ⟨rfl, ⟨rfl, ⟨rfl, ⟨rfl, ⟨rfl, ⟨rfl, trivial⟩⟩⟩⟩⟩⟩ ⟨rfl, trivial⟩
    refine W_regL (WL_pure rfl rfl (by decide) (Pu_move rfl rfl) (WL_pure rfl rfl (by decide) (Pu_move rfl rfl) (WL_pure rfl rfl (by decide) (Pu_move rfl rfl) (WL_pure rfl rfl (by decide) (Pu_idxS (r := 0) rfl Tryz.runUnderlying118 Tryz.sizeOf122 rfl rfl rfl hF (by omega)) (WL_pure rfl rfl (by decide) (Pu_loadSN (r := 0) rfl Tryz.isAgg122 Tryz.sizeOf122 rfl rfl hF (entF_len (hE.get hlt)) (by decide) (ent_all hE hlt)) (WL_cons rfl rfl (by decide) (OpT_callV (cap := [.pointer (some ⟨g, 0, none⟩)]) 200 [0] [] rfl rfl Tryz.call74 rfl rfl rfl (by decide) (by decide) (clos_spec (es.getD x ent0) g m _ (cell_up 0 rfl hC)) (fun v16 Ps16 hR16 => ?_))))))))
    obtain ⟨rfl, rfl⟩ := hR16
    refine (WL_nil (X_then ?_))
    refine W_cond rfl (fun hc16 => ?_) (fun hc16 => ?_)
    ·
      have hres := idxE_here hlt hxi (of_decide_eq_true hc16)
      refine W_seq ?_
      refine W.pre (K' := [(0, _), (1, _), (5, _), (7, _), (8, _), (9, _), (16, _)]) (L' := [(0, _)]) ?_ ⟨rfl, ⟨rfl, ⟨rfl, ⟨rfl, ⟨rfl, ⟨rfl, ⟨rfl, trivial⟩⟩⟩⟩⟩⟩⟩ ⟨rfl, trivial⟩
      refine W_regL (WL_pure rfl rfl (by decide) (Pu_move rfl rfl) (WL_pure rfl rfl (by decide) (Pu_assign rfl rfl) (WL_nil (X_then ?_))))
      refine W_ret (X_block_ret (X_then_ret (X_then_ret (X_block_ret (X_then_ret ?_)))))
      exact X_ret [] (Ps := []) (res1 Tryz.results73 rfl) rfl (by decide) ⟨by rw [hres] <;> rfl, rfl⟩
    ·
      have hne := of_decide_eq_false hc16
      refine W_skip (X_block (X_then ?_))
      refine W.pre (K' := [(0, _), (1, _), (5, _), (7, _), (8, _), (9, _), (16, _)]) (L' := [(0, _)]) ?_ ⟨rfl, ⟨rfl, ⟨rfl, ⟨rfl, ⟨rfl, ⟨rfl, ⟨rfl, trivial⟩⟩⟩⟩⟩⟩⟩ ⟨rfl, trivial⟩
      refine W_regL (WL_pure rfl rfl (by decide) (Pu_bin rfl rfl rfl (run_add _ _ _ _ _ (by omega))) (WL_pure rfl rfl (by decide) (Pu_move rfl rfl) (WL_nil ?_)))
      exact X_round (x + 1) ⟨by omega, idxE_step hlt hxi hne⟩ (by omega) ⟨rfl, rfl, rfl, rfl, trivial⟩ ⟨rfl, trivial⟩
  ·
    have hge : es.length ≤ x := by have := of_decide_eq_false hc9; omega
    have hres := idxE_end hge hxi
    refine W_exit (X_then_exit (X_then_exit (X_block_exit (X_then ?_))))
    refine W_seq ?_
    refine W.pre (K' := [(0, _), (1, _), (7, _), (8, _), (9, _)]) (L' := [(0, _)]) ?_ ⟨rfl, ⟨rfl, ⟨rfl, ⟨rfl, ⟨rfl, trivial⟩⟩⟩⟩⟩ ⟨rfl, trivial⟩
    refine W_regL (WL_pure rfl rfl (by decide) (Pu_assign rfl rfl) (WL_nil (X_then ?_)))
    refine W_ret ?_
    exact X_ret [] (Ps := []) (res1 Tryz.results73 rfl) rfl (by decide) ⟨by rw [hres] <;> rfl, rfl⟩
theorem view_find (gm : Nat) (ls : List LB) (F : HP) (hM : ∀ h, F h → mapQ idV ok32 gm (entsL ls) none h) (hL : ∀ p ∈ ls, ∀ h, F h → rdB p.2.1 p.2.2 h) (hT : ∀ h, F h → tabsP h) (top path : List UInt8) (hid : top.length = 32) (hpl : path.length ≤ 1000000000) : CallsS Tryz.prog 44 #[.map (some gm), idV top, sV path] F [] (fun r Ps => r = .tuple #[.agg (ndC (pathV (vw ls) top path).1).toArray, .int .i64 (pathV (vw ls) top path).2] ∧ Ps = []) := by
  refine callsS_enter Tryz.func44 rfl Tryz.ntmps44 (by simp) (fun E => ?_)
  refine W_seq ?_
  refine W.pre (K' := [(0, _), (1, _), (2, _)]) (L' := [(0, _)]) ?_ ⟨rfl, ⟨rfl, ⟨rfl, trivial⟩⟩⟩ ⟨rfl, trivial⟩
  refine W_regL (WL_cons rfl rfl (by decide) (OpT_box (r := 101) rfl rfl rfl (fun g101 => (WL_cons rfl rfl (by decide) (OpT_alloc (r := 102) (cs := (nodeC 0 0 0 zeroId)) rfl (zero_run (by kernel_rfl : (Tryz.prog.info? 42).bind (·.zero) = some (.agg (nodeC 0 0 0 zeroId).toArray))) rfl (fun g102 => (WL_pure rfl rfl (by decide) (Pu_assign rfl rfl) (WL_nil (X_then ?_)))))))))
  refine W_seq ?_
  refine W.pre (K' := [(0, _), (1, _), (2, _), (4, _), (6, _), (7, _)]) (L' := [(0, _), (101, _), (102, _)]) ?_ ⟨rfl, ⟨rfl, ⟨rfl, ⟨rfl, ⟨rfl, ⟨rfl, trivial⟩⟩⟩⟩⟩⟩ ⟨rfl, ⟨rfl, ⟨rfl, trivial⟩⟩⟩
  refine W_regL (WL_pure rfl rfl (by decide) (Pu_move rfl rfl) (WL_cons rfl rfl (by decide) (OpT_call 200 [0, 101, 102] [] rfl Tryz.call36 rfl rfl rfl (by decide) (by decide) (split_nspec path (by omega) _ (tabs_star 0 rfl hT)) (fun v17 Ps17 hR17 => ?_))))
  obtain ⟨vs17, rfl, rfl⟩ := hR17
  skip
  refine (WL_pure rfl rfl (by decide) (Pu_move rfl rfl) (WL_pure rfl rfl (by decide) (Pu_extract rfl rfl rfl) (WL_pure rfl rfl (by decide) (Pu_extract rfl rfl rfl) (WL_pure rfl rfl (by decide) (Pu_assign rfl rfl) (WL_pure rfl rfl (by decide) (Pu_assign rfl rfl) (WL_nil (X_then ?_)))))))
  refine W_seq ?_
  refine W_seq ?_
  refine W.pre (K' := [(0, _), (1, _), (2, _), (4, _), (6, _), (7, _), (8, _), (9, _)]) (L' := [(0, _), (101, _), (102, _), (200, _)]) ?_ ⟨rfl, ⟨rfl, ⟨rfl, ⟨rfl, ⟨rfl, ⟨rfl, ⟨rfl, ⟨rfl, trivial⟩⟩⟩⟩⟩⟩⟩⟩ ⟨rfl, ⟨rfl, ⟨rfl, ⟨rfl, trivial⟩⟩⟩⟩
  refine W_regL (WL_pure rfl rfl (by decide) (Pu_move rfl rfl) (WL_pure rfl rfl (by decide) (Pu_bin rfl rfl rfl (run_neq _ _ _ _ _ _)) (WL_nil (X_then ?_))))
  refine W_cond rfl (fun hc21 => ?_) (fun hc21 => ?_)
  ·
    have hs0 : (splitN path).2 ≠ 0 := by simpa using hc21
    have hres : pathV (vw ls) top path = (nd0, ((splitN path).2 : Int)) := by unfold pathV; rw [if_pos hs0]
    refine W_seq ?_
    refine W.pre (K' := [(0, _), (1, _), (2, _), (4, _), (6, _), (7, _), (8, _), (9, _), (21, _)]) (L' := [(0, _), (101, _), (102, _), (200, _)]) ?_ ⟨rfl, ⟨rfl, ⟨rfl, ⟨rfl, ⟨rfl, ⟨rfl, ⟨rfl, ⟨rfl, ⟨rfl, trivial⟩⟩⟩⟩⟩⟩⟩⟩⟩ ⟨rfl, ⟨rfl, ⟨rfl, ⟨rfl, trivial⟩⟩⟩⟩
    refine W_regL (WL_pure rfl rfl (by decide) (Pu_build (V := .agg (nodeC 0 0 0 zeroId).toArray) [(0, 1), (1, 1), (2, 1), (3, 32)] (nodeC 0 0 0 zeroId) rfl rfl (by kernel_rfl) (by kernel_rfl) (.nil _) rfl) (WL_pure rfl rfl (by decide) (Pu_move rfl rfl) (WL_cons0 rfl rfl (OpT_storeAll (r := 102) rfl Tryz.sizeOf42 rfl rfl rfl (nodeC_length zeroId_length) (nodeC_length zeroId_length) (one_node _ _ _ _) ?_))))
    refine (WL_pure rfl rfl (by decide) (Pu_assign rfl rfl) (WL_nil (X_then ?_)))
    refine W_ret (X_then_ret ?_)
    exact X_ret [] (Ps := []) (resC2 (r := 102) Tryz.results44 rfl rfl Tryz.isAgg42 Tryz.sizeOf42 rfl (nodeC_length zeroId_length)) rfl (by decide) ⟨by rw [hres] <;> rfl, rfl⟩
  ·
    have hs0 : (splitN path).2 = 0 := by simpa using hc21
    have hsl := splitN_len path
    refine W_skip (X_then ?_)
    refine W_seq ?_
    refine W.pre (K' := [(0, _), (1, _), (2, _), (4, _), (6, _), (7, _), (8, _), (9, _), (21, _)]) (L' := [(0, _), (101, _), (102, _), (200, _)]) ?_ ⟨rfl, ⟨rfl, ⟨rfl, ⟨rfl, ⟨rfl, ⟨rfl, ⟨rfl, ⟨rfl, ⟨rfl, trivial⟩⟩⟩⟩⟩⟩⟩⟩⟩ ⟨rfl, ⟨rfl, ⟨rfl, ⟨rfl, trivial⟩⟩⟩⟩
    refine W_regL (WL_pure rfl rfl (by decide) (Pu_move rfl rfl) (WL_pure rfl rfl (by decide) (Pu_loadBN (r := 101) rfl Tryz.isAgg29 Tryz.sizeOf29 rfl rfl ((bs_length _).trans hid) (load_all ((bs_length _).trans hid))) (WL_cons rfl rfl (by decide) (OpT_call 300 [0, 101, 102, 200] [] rfl Tryz.call58 rfl rfl rfl (by decide) (by decide) (view_inode gm ls _ (mapQ_star 0 rfl hM) (fun p0 hp0 => rd_star 0 rfl (hL p0 hp0)) top hid) (fun v27 Ps27 hR27 => ?_)))))
    obtain ⟨rfl, rfl⟩ := hR27
    refine (WL_pure rfl rfl (by decide) (Pu_move rfl rfl) (WL_pure rfl rfl (by decide) (Pu_extract rfl rfl rfl) (WL_pure rfl rfl (by decide) (Pu_extract rfl rfl rfl) (WL_cons rfl rfl (by decide) (OpT_alloc (r := 301) (cs := (nodeC 0 0 0 zeroId)) rfl (zero_run (by kernel_rfl : (Tryz.prog.info? 42).bind (·.zero) = some (.agg (nodeC 0 0 0 zeroId).toArray))) rfl (fun g301 => (WL_cons0 rfl rfl (OpT_storeAll (r := 301) rfl Tryz.sizeOf42 rfl rfl rfl (nodeC_length zeroId_length) (ndC_length (inodeV_top _ _)) (one_node _ _ _ _) ?_))))))))
    refine (WL_pure rfl rfl (by decide) (Pu_assign rfl rfl) (WL_nil (X_then ?_)))
    refine W_seq ?_
    refine W_seq ?_
    refine W.pre (K' := [(0, _), (1, _), (2, _), (4, _), (6, _), (7, _), (8, _), (9, _), (10, _), (21, _)]) (L' := [(0, _), (101, _), (102, _), (200, _), (301, _)]) ?_ ⟨rfl, ⟨rfl, ⟨rfl, ⟨rfl, ⟨rfl, ⟨rfl, ⟨rfl, ⟨rfl, ⟨rfl, ⟨rfl, trivial⟩⟩⟩⟩⟩⟩⟩⟩⟩⟩ ⟨rfl, ⟨rfl, ⟨rfl, ⟨rfl, ⟨rfl, trivial⟩⟩⟩⟩⟩
    refine W_regL (WL_pure rfl rfl (by decide) (Pu_move rfl rfl) (WL_pure rfl rfl (by decide) (Pu_len (r := 200) rfl Tryz.runUnderlying63 rfl rfl rowS_rd) (WL_pure rfl rfl (by decide) (Pu_move rfl rfl) (WL_nil (X_then ?_)))))
    refine W_block ?_
    refine W_loop (α := Nat × Nd × Int) (fun x => [(0, .map (some gm)), (6, .pointer (some ⟨g102, 0, none⟩)), (9, .int .i64 x.2.2), (10, .pointer (some ⟨g301, 0, none⟩)), (30, vs17), (31, .int .i64 ((splitN path).1.length : Int)), (32, .int .i64 (x.1 : Int))]) (fun x => [(0, F), (200, rowS 9 vs17 (splitN path).1), (102, blk g102 42 (nodeC 0 0 0 zeroId)), (301, blk g301 42 (ndC x.2.1))]) (fun x => x.1 ≤ (splitN path).1.length ∧ x.2.1.2.2.2.length = 32 ∧ (x.2.2 = 0 → NdOk x.2.1) ∧ pathV (vw ls) top path = (if x.2.2 ≠ 0 then (nd0, x.2.2) else findV (vw ls) ((splitN path).1.drop x.1) x.2.1)) (fun x => (splitN path).1.length - x.1) ((0, (inodeV (vw ls) top).1, (inodeV (vw ls) top).2)) ⟨Nat.zero_le _, inodeV_top _ _, inodeV_ok, by unfold pathV; rw [if_neg (fun h => h hs0)]; rfl⟩ ⟨rfl, ⟨rfl, ⟨rfl, ⟨rfl, ⟨rfl, ⟨rfl, ⟨rfl, trivial⟩⟩⟩⟩⟩⟩⟩ ⟨rfl, ⟨rfl, ⟨rfl, ⟨rfl, trivial⟩⟩⟩⟩ (fun x hx => ?_)
    obtain ⟨hx1, hx2, hx3, hx4⟩ := hx
    refine W_seq ?_
    refine W.pre (K' := [(0, _), (6, _), (9, _), (10, _), (30, _), (31, _), (32, _)]) (L' := [(0, _), (102, _), (200, _), (301, _)]) ?_ ⟨rfl, ⟨rfl, ⟨rfl, ⟨rfl, ⟨rfl, ⟨rfl, ⟨rfl, trivial⟩⟩⟩⟩⟩⟩⟩ ⟨rfl, ⟨rfl, ⟨rfl, ⟨rfl, trivial⟩⟩⟩⟩
    refine W_regL (WL_pure rfl rfl (by decide) (Pu_bin rfl rfl rfl (run_lss _ _ _ _ _ _)) (WL_nil (X_then ?_)))
    refine W_seq ?_
    refine W_cond rfl (fun hc33 => ?_) (fun hc33 => ?_)
    ·
      have hlt : x.1 < (splitN path).1.length := by have := of_decide_eq_true hc33; omega
      obtain ⟨m, hm⟩ : ∃ m, m = (splitN path).1.getD x.1 [] := ⟨_, rfl⟩
      have hgm : (splitN path).1[x.1] = m := by rw [hm]; simp [hlt]
      refine W_skip (X_then ?_)
      refine W_seq ?_
      refine W_block ?_
      refine W_seq ?_
      refine W.pre (K' := [(0, _), (6, _), (9, _), (10, _), (30, _), (31, _), (32, _), (33, _)]) (L' := [(0, _), (102, _), (200, _), (301, _)]) ?_ ⟨rfl, ⟨rfl, ⟨rfl, ⟨rfl, ⟨rfl, ⟨rfl, ⟨rfl, ⟨rfl, trivial⟩⟩⟩⟩⟩⟩⟩⟩ ⟨rfl, ⟨rfl, ⟨rfl, ⟨rfl, trivial⟩⟩⟩⟩
      refine W_regL (WL_pure rfl rfl (by decide) (Pu_idxS1 (r := 200) rfl Tryz.runUnderlying63 Tryz.sizeOf9 rfl rfl rfl rowS_rd (by omega)) (WL_pure rfl rfl (by decide) (Pu_loadS (r := 200) rfl Tryz.isAgg9 rfl rfl rowS_rd (ss_at (k := x.1) hlt)) ?_))
      rw [← hm]
      refine (WL_cons rfl rfl (by decide) (OpT_alloc (r := 302) rfl Tryz.zeroValue9 rfl (fun g302 => (WL_cons0 rfl rfl (OpT_storeB1 (r := 302) rfl Tryz.sizeOf9 rfl rfl rfl rfl (by decide) (show _ = [sV m] from rfl) ?_)))))
      refine (WL_nil (X_then ?_))
      refine W_seq ?_
      refine W_seq ?_
      refine W.pre (K' := [(0, _), (6, _), (9, _), (10, _), (12, _), (30, _), (31, _), (32, _), (33, _)]) (L' := [(0, _), (102, _), (200, _), (301, _), (302, _)]) ?_ ⟨rfl, ⟨rfl, ⟨rfl, ⟨rfl, ⟨rfl, ⟨rfl, ⟨rfl, ⟨rfl, ⟨rfl, trivial⟩⟩⟩⟩⟩⟩⟩⟩⟩ ⟨rfl, ⟨rfl, ⟨rfl, ⟨rfl, ⟨rfl, trivial⟩⟩⟩⟩⟩
      refine W_regL (WL_pure rfl rfl (by decide) (Pu_move rfl rfl) (WL_pure rfl rfl (by decide) (Pu_bin rfl rfl rfl (run_neq _ _ _ _ _ _)) (WL_nil (X_then ?_))))
      refine W_cond rfl (fun hc37 => ?_) (fun hc37 => ?_)
      ·
        have he0 : x.2.2 ≠ 0 := by simpa using hc37
        have hres : pathV (vw ls) top path = (nd0, x.2.2) := by rw [hx4, if_pos he0]
        refine W_exit (X_then_exit (X_block_out (by decide) (X_then_exit (X_then_exit (X_block_exit (X_then ?_))))))
        refine W_seq ?_
        refine W_seq ?_
        refine W.pre (K' := [(0, _), (6, _), (9, _), (10, _), (12, _), (30, _), (31, _), (32, _), (33, _), (37, _)]) (L' := [(0, _), (102, _), (200, _), (301, _), (302, _)]) ?_ ⟨rfl, ⟨rfl, ⟨rfl, ⟨rfl, ⟨rfl, ⟨rfl, ⟨rfl, ⟨rfl, ⟨rfl, ⟨rfl, trivial⟩⟩⟩⟩⟩⟩⟩⟩⟩⟩ ⟨rfl, ⟨rfl, ⟨rfl, ⟨rfl, ⟨rfl, trivial⟩⟩⟩⟩⟩
        refine W_regL (WL_pure rfl rfl (by decide) (Pu_move rfl rfl) (WL_pure rfl rfl (by decide) (Pu_bin rfl rfl rfl (run_neq _ _ _ _ _ _)) (WL_nil (X_then ?_))))
        refine W_true rfl (hc37) ?_
        refine W_seq ?_
        refine W.pre (K' := [(0, _), (6, _), (9, _), (10, _), (12, _), (30, _), (31, _), (32, _), (33, _), (37, _), (64, _)]) (L' := [(0, _), (102, _), (200, _), (301, _), (302, _)]) ?_ ⟨rfl, ⟨rfl, ⟨rfl, ⟨rfl, ⟨rfl, ⟨rfl, ⟨rfl, ⟨rfl, ⟨rfl, ⟨rfl, ⟨rfl, trivial⟩⟩⟩⟩⟩⟩⟩⟩⟩⟩⟩ ⟨rfl, ⟨rfl, ⟨rfl, ⟨rfl, ⟨rfl, trivial⟩⟩⟩⟩⟩
        refine W_regL (WL_pure rfl rfl (by decide) (Pu_build (V := .agg (nodeC 0 0 0 zeroId).toArray) [(0, 1), (1, 1), (2, 1), (3, 32)] (nodeC 0 0 0 zeroId) rfl rfl (by kernel_rfl) (by kernel_rfl) (.nil _) rfl) (WL_pure rfl rfl (by decide) (Pu_move rfl rfl) (WL_cons0 rfl rfl (OpT_storeAll (r := 102) rfl Tryz.sizeOf42 rfl rfl rfl (nodeC_length zeroId_length) (nodeC_length zeroId_length) (one_node _ _ _ _) ?_))))
        refine (WL_pure rfl rfl (by decide) (Pu_assign rfl rfl) (WL_nil (X_then ?_)))
        refine W_ret (X_then_ret ?_)
        exact X_ret [] (Ps := []) (resC2 (r := 102) Tryz.results44 rfl rfl Tryz.isAgg42 Tryz.sizeOf42 rfl (nodeC_length zeroId_length)) rfl (by decide) ⟨by rw [hres] <;> rfl, rfl⟩
      ·
        have he0 : x.2.2 = 0 := not_decE hc37
        refine W_skip (X_then ?_)
        refine W_seq ?_
        refine W.pre (K' := [(0, _), (6, _), (9, _), (10, _), (12, _), (30, _), (31, _), (32, _), (33, _), (37, _)]) (L' := [(0, _), (102, _), (200, _), (301, _), (302, _)]) ?_ ⟨rfl, ⟨rfl, ⟨rfl, ⟨rfl, ⟨rfl, ⟨rfl, ⟨rfl, ⟨rfl, ⟨rfl, ⟨rfl, trivial⟩⟩⟩⟩⟩⟩⟩⟩⟩⟩ ⟨rfl, ⟨rfl, ⟨rfl, ⟨rfl, ⟨rfl, trivial⟩⟩⟩⟩⟩
        refine W_regL (WL_pure rfl rfl (by decide) (Pu_assign rfl rfl) (WL_nil (X_then ?_)))
        refine W_seq ?_
        refine W_seq ?_
        refine W.pre (K' := [(0, _), (6, _), (9, _), (10, _), (12, _), (13, _), (30, _), (31, _), (32, _), (33, _), (37, _)]) (L' := [(0, _), (102, _), (200, _), (301, _), (302, _)]) ?_ ⟨rfl, ⟨rfl, ⟨rfl, ⟨rfl, ⟨rfl, ⟨rfl, ⟨rfl, ⟨rfl, ⟨rfl, ⟨rfl, ⟨rfl, trivial⟩⟩⟩⟩⟩⟩⟩⟩⟩⟩⟩ ⟨rfl, ⟨rfl, ⟨rfl, ⟨rfl, ⟨rfl, trivial⟩⟩⟩⟩⟩
        refine W_regL (WL_pure rfl rfl (by decide) (Pu_move rfl rfl) (WL_pure rfl rfl (by decide) (Pu_loadBN (r := 301) rfl Tryz.isAgg42 Tryz.sizeOf42 rfl rfl (ndC_length hx2) (load_all (ndC_length hx2))) (WL_cons rfl rfl (by decide) (OpT_call 400 [0, 102, 200, 301, 302] [] rfl Tryz.call56 rfl rfl rfl (by decide) (by decide) (view_folder gm ls _ (mapQ_star 0 rfl hM) (fun p0 hp0 => rd_star 0 rfl (hL p0 hp0)) (tabs_star 0 rfl hT) x.2.1 (hx3 he0)) (fun v41 Ps41 hR41 => ?_)))))
        obtain ⟨w41, rfl, rfl⟩ := hR41
        skip
        refine (WL_pure rfl rfl (by decide) (Pu_move rfl rfl) (WL_pure rfl rfl (by decide) (Pu_extract rfl rfl rfl) (WL_pure rfl rfl (by decide) (Pu_extract rfl rfl rfl) (WL_pure rfl rfl (by decide) (Pu_assign rfl rfl) (WL_pure rfl rfl (by decide) (Pu_assign rfl rfl) (WL_nil (X_then ?_)))))))
        refine W_seq ?_
        refine W.pre (K' := [(0, _), (6, _), (9, _), (10, _), (12, _), (13, _), (30, _), (31, _), (32, _), (33, _), (37, _)]) (L' := [(0, _), (102, _), (200, _), (301, _), (302, _), (400, _)]) ?_ ⟨rfl, ⟨rfl, ⟨rfl, ⟨rfl, ⟨rfl, ⟨rfl, ⟨rfl, ⟨rfl, ⟨rfl, ⟨rfl, ⟨rfl, trivial⟩⟩⟩⟩⟩⟩⟩⟩⟩⟩⟩ ⟨rfl, ⟨rfl, ⟨rfl, ⟨rfl, ⟨rfl, ⟨rfl, trivial⟩⟩⟩⟩⟩⟩
        refine W_regL (WL_pure rfl rfl (by decide) (Pu_move rfl rfl) (WL_pure rfl rfl (by decide) (Pu_bin rfl rfl rfl (run_neq _ _ _ _ _ _)) (WL_nil (X_then ?_))))
        refine W_cond rfl (fun hc45 => ?_) (fun hc45 => ?_)
        ·
          have hd0 : (dirV (vw ls) x.2.1).2 ≠ 0 := by simpa using hc45
          have hres : pathV (vw ls) top path = (nd0, ((dirV (vw ls) x.2.1).2 : Int)) := by rw [hx4, if_neg (fun h => h he0), List.drop_eq_getElem_cons hlt, findV, if_pos hd0]
          refine W_exit (X_then_exit (X_block_out (by decide) (X_then_exit (X_then_exit (X_block_exit (X_then ?_))))))
          refine W_seq ?_
          refine W_seq ?_
          refine W.pre (K' := [(0, _), (6, _), (9, _), (10, _), (12, _), (13, _), (30, _), (31, _), (32, _), (33, _), (37, _), (45, _)]) (L' := [(0, _), (102, _), (200, _), (301, _), (302, _), (400, _)]) ?_ ⟨rfl, ⟨rfl, ⟨rfl, ⟨rfl, ⟨rfl, ⟨rfl, ⟨rfl, ⟨rfl, ⟨rfl, ⟨rfl, ⟨rfl, ⟨rfl, trivial⟩⟩⟩⟩⟩⟩⟩⟩⟩⟩⟩⟩ ⟨rfl, ⟨rfl, ⟨rfl, ⟨rfl, ⟨rfl, ⟨rfl, trivial⟩⟩⟩⟩⟩⟩
          refine W_regL (WL_pure rfl rfl (by decide) (Pu_move rfl rfl) (WL_pure rfl rfl (by decide) (Pu_bin rfl rfl rfl (run_neq _ _ _ _ _ _)) (WL_nil (X_then ?_))))
          refine W_true rfl (hc45) ?_
          refine W_seq ?_
          refine W.pre (K' := [(0, _), (6, _), (9, _), (10, _), (12, _), (13, _), (30, _), (31, _), (32, _), (33, _), (37, _), (45, _), (64, _)]) (L' := [(0, _), (102, _), (200, _), (301, _), (302, _), (400, _)]) ?_ ⟨rfl, ⟨rfl, ⟨rfl, ⟨rfl, ⟨rfl, ⟨rfl, ⟨rfl, ⟨rfl, ⟨rfl, ⟨rfl, ⟨rfl, ⟨rfl, ⟨rfl, trivial⟩⟩⟩⟩⟩⟩⟩⟩⟩⟩⟩⟩⟩ ⟨rfl, ⟨rfl, ⟨rfl, ⟨rfl, ⟨rfl, ⟨rfl, trivial⟩⟩⟩⟩⟩⟩
          refine W_regL (WL_pure rfl rfl (by decide) (Pu_build (V := .agg (nodeC 0 0 0 zeroId).toArray) [(0, 1), (1, 1), (2, 1), (3, 32)] (nodeC 0 0 0 zeroId) rfl rfl (by kernel_rfl) (by kernel_rfl) (.nil _) rfl) (WL_pure rfl rfl (by decide) (Pu_move rfl rfl) (WL_cons0 rfl rfl (OpT_storeAll (r := 102) rfl Tryz.sizeOf42 rfl rfl rfl (nodeC_length zeroId_length) (nodeC_length zeroId_length) (one_node _ _ _ _) ?_))))
          refine (WL_pure rfl rfl (by decide) (Pu_assign rfl rfl) (WL_nil (X_then ?_)))
          refine W_ret (X_then_ret ?_)
          exact X_ret [] (Ps := []) (resC2 (r := 102) Tryz.results44 rfl rfl Tryz.isAgg42 Tryz.sizeOf42 rfl (nodeC_length zeroId_length)) rfl (by decide) ⟨by rw [hres] <;> rfl, rfl⟩
        ·
          have hd0 : (dirV (vw ls) x.2.1).2 = 0 := by simpa using hc45
          obtain ⟨es, hdes⟩ : ∃ es, (dirV (vw ls) x.2.1).1 = es := ⟨_, rfl⟩
          have hdd := dirV_ents (vw ls) x.2.1 (hx3 he0)
          rw [hdes] at hdd
          obtain ⟨hE, hel⟩ := hdd
          rw [hdes]
          have hif := idxE_find m es
          refine W_skip (X_then ?_)
          refine W_seq ?_
          refine W.pre (K' := [(0, _), (6, _), (9, _), (10, _), (12, _), (13, _), (30, _), (31, _), (32, _), (33, _), (37, _), (45, _)]) (L' := [(0, _), (102, _), (200, _), (301, _), (302, _), (400, _)]) ?_ ⟨rfl, ⟨rfl, ⟨rfl, ⟨rfl, ⟨rfl, ⟨rfl, ⟨rfl, ⟨rfl, ⟨rfl, ⟨rfl, ⟨rfl, ⟨rfl, trivial⟩⟩⟩⟩⟩⟩⟩⟩⟩⟩⟩⟩ ⟨rfl, ⟨rfl, ⟨rfl, ⟨rfl, ⟨rfl, ⟨rfl, trivial⟩⟩⟩⟩⟩⟩
          refine W_regL (WL_pure rfl rfl (by decide) (Pu_move rfl rfl) (WL_pure rfl rfl (by decide) (Pu_makeFunc rfl rfl) (WL_cons rfl rfl (by decide) (OpT_call 500 [0, 102, 200, 301, 302, 400] [] rfl Tryz.call73 rfl rfl rfl (by decide) (by decide) (index_spec w41 es hE hel g302 m _ (rd_star 5 rfl rowR_rd) (cell_star 4 rfl rfl)) (fun v48 Ps48 hR48 => ?_)))))
          obtain ⟨rfl, rfl⟩ := hR48
          refine (WL_pure rfl rfl (by decide) (Pu_assign rfl rfl) (WL_nil (X_then ?_)))
          refine W_seq ?_
          refine W_seq ?_
          refine W.pre (K' := [(0, _), (6, _), (9, _), (10, _), (12, _), (13, _), (14, _), (30, _), (31, _), (32, _), (33, _), (37, _), (45, _)]) (L' := [(0, _), (102, _), (200, _), (301, _), (302, _), (400, _)]) ?_ ⟨rfl, ⟨rfl, ⟨rfl, ⟨rfl, ⟨rfl, ⟨rfl, ⟨rfl, ⟨rfl, ⟨rfl, ⟨rfl, ⟨rfl, ⟨rfl, ⟨rfl, trivial⟩⟩⟩⟩⟩⟩⟩⟩⟩⟩⟩⟩⟩ ⟨rfl, ⟨rfl, ⟨rfl, ⟨rfl, ⟨rfl, ⟨rfl, trivial⟩⟩⟩⟩⟩⟩
          rcases Bool.eq_false_or_eq_true ((idxE m es).isSome) with hsp13 | hsp13
          ·
            obtain ⟨i, hi⟩ := is_some_T hsp13
            rw [hi] at hif
            rw [hi]
            simp only [idxV]
            refine W_regL (WL_pure rfl rfl (by decide) (Pu_move rfl rfl) (WL_pure rfl rfl (by decide) (Pu_bin rfl rfl rfl (run_lss _ _ _ _ _ _)) (WL_nil (X_then ?_))))
            refine W_false rfl ((decide_eq_false (by omega))) ?_
            refine W_skip (X_then ?_)
            refine W.pre (K' := [(0, _), (6, _), (9, _), (10, _), (12, _), (13, _), (14, _), (30, _), (31, _), (32, _), (33, _), (37, _), (45, _), (50, _)]) (L' := [(0, _), (102, _), (200, _), (301, _), (302, _), (400, _)]) ?_ ⟨rfl, ⟨rfl, ⟨rfl, ⟨rfl, ⟨rfl, ⟨rfl, ⟨rfl, ⟨rfl, ⟨rfl, ⟨rfl, ⟨rfl, ⟨rfl, ⟨rfl, ⟨rfl, trivial⟩⟩⟩⟩⟩⟩⟩⟩⟩⟩⟩⟩⟩⟩ ⟨rfl, ⟨rfl, ⟨rfl, ⟨rfl, ⟨rfl, ⟨rfl, trivial⟩⟩⟩⟩⟩⟩
            refine W_regL (WL_pure rfl rfl (by decide) (Pu_move rfl rfl) (WL_pure rfl rfl (by decide) (Pu_move rfl rfl) (WL_pure rfl rfl (by decide) (Pu_move rfl rfl) (WL_pure rfl rfl (by decide) (Pu_idxS (r := 400) rfl Tryz.runUnderlying118 Tryz.sizeOf122 rfl rfl rfl rowR_rd (by have := hif.1; omega)) (WL_pure rfl rfl (by decide) (Pu_fieldAddrE (off := 1) rfl rfl (by kernel_rfl)) (WL_pure rfl rfl (by decide) (Pu_loadSN (r := 400) rfl Tryz.isAgg29 Tryz.sizeOf29 rfl rfl rowR_rd ((bs_length _).trans (hE.get hif.1)) (by decide) (ent_node hE hif.1)) (WL_cons rfl rfl (by decide) (OpT_call 600 [0, 102, 200, 301, 302, 400] [] rfl Tryz.call58 rfl rfl rfl (by decide) (by decide) (view_inode gm ls _ (mapQ_star 0 rfl hM) (fun p0 hp0 => rd_star 0 rfl (hL p0 hp0)) (es.getD i ent0).2 (hE.get hif.1)) (fun v59 Ps59 hR59 => ?_)))))))))
            obtain ⟨rfl, rfl⟩ := hR59
            refine (WL_pure rfl rfl (by decide) (Pu_move rfl rfl) (WL_pure rfl rfl (by decide) (Pu_extract rfl rfl rfl) (WL_pure rfl rfl (by decide) (Pu_extract rfl rfl rfl) (WL_cons0 rfl rfl (OpT_storeAll (r := 301) rfl Tryz.sizeOf42 rfl rfl rfl (ndC_length hx2) (ndC_length (inodeV_top _ _)) (one_node _ _ _ _) ?_)))))
            refine (WL_pure rfl rfl (by decide) (Pu_assign rfl rfl) (WL_nil (X_block (X_then ?_))))
            refine W.pre (K' := [(0, _), (6, _), (9, _), (10, _), (12, _), (13, _), (14, _), (30, _), (31, _), (32, _), (33, _), (37, _), (45, _), (50, _)]) (L' := [(0, _), (102, _), (200, _), (301, _), (302, _), (400, _)]) ?_ ⟨rfl, ⟨rfl, ⟨rfl, ⟨rfl, ⟨rfl, ⟨rfl, ⟨rfl, ⟨rfl, ⟨rfl, ⟨rfl, ⟨rfl, ⟨rfl, ⟨rfl, ⟨rfl, trivial⟩⟩⟩⟩⟩⟩⟩⟩⟩⟩⟩⟩⟩⟩ ⟨rfl, ⟨rfl, ⟨rfl, ⟨rfl, ⟨rfl, ⟨rfl, trivial⟩⟩⟩⟩⟩⟩
            refine W_regL (WL_pure rfl rfl (by decide) (Pu_bin rfl rfl rfl (run_add _ _ _ _ _ (by omega))) (WL_pure rfl rfl (by decide) (Pu_move rfl rfl) (WL_nil ?_)))
            exact X_round (x.1 + 1, (inodeV (vw ls) (es.getD i ent0).2).1, (inodeV (vw ls) (es.getD i ent0).2).2) ⟨by dsimp only; omega, inodeV_top _ _, inodeV_ok, by rw [hx4, if_neg (fun h => h he0), List.drop_eq_getElem_cons hlt, findV, if_neg (fun h => h hd0), hgm, hdes, hif.2]⟩ (by dsimp only; omega) ⟨rfl, rfl, rfl, rfl, rfl, rfl, rfl, trivial⟩ ⟨rfl, rfl, rfl, rfl, trivial⟩
          ·
            have hi := is_none_F hsp13
            rw [hi] at hif
            rw [hi]
            simp only [idxV]
            have hres : pathV (vw ls) top path = (nd0, 2) := by rw [hx4, if_neg (fun h => h he0), List.drop_eq_getElem_cons hlt, findV, if_neg (fun h => h hd0), hgm, hdes, hif]
            refine W_regL (WL_pure rfl rfl (by decide) (Pu_move rfl rfl) (WL_pure rfl rfl (by decide) (Pu_bin rfl rfl rfl (run_lss _ _ _ _ _ _)) (WL_nil (X_then ?_))))
            refine W_true rfl (rfl) ?_
            refine W_seq ?_
            refine W.pre (K' := [(0, _), (6, _), (9, _), (10, _), (12, _), (13, _), (14, _), (30, _), (31, _), (32, _), (33, _), (37, _), (45, _), (50, _)]) (L' := [(0, _), (102, _), (200, _), (301, _), (302, _), (400, _)]) ?_ ⟨rfl, ⟨rfl, ⟨rfl, ⟨rfl, ⟨rfl, ⟨rfl, ⟨rfl, ⟨rfl, ⟨rfl, ⟨rfl, ⟨rfl, ⟨rfl, ⟨rfl, ⟨rfl, trivial⟩⟩⟩⟩⟩⟩⟩⟩⟩⟩⟩⟩⟩⟩ ⟨rfl, ⟨rfl, ⟨rfl, ⟨rfl, ⟨rfl, ⟨rfl, trivial⟩⟩⟩⟩⟩⟩
            refine W_regL (WL_pure rfl rfl (by decide) (Pu_build (V := .agg (nodeC 0 0 0 zeroId).toArray) [(0, 1), (1, 1), (2, 1), (3, 32)] (nodeC 0 0 0 zeroId) rfl rfl (by kernel_rfl) (by kernel_rfl) (.nil _) rfl) (WL_cons0 rfl rfl (OpT_storeAll (r := 102) rfl Tryz.sizeOf42 rfl rfl rfl (nodeC_length zeroId_length) (nodeC_length zeroId_length) (one_node _ _ _ _) ?_)))
            refine (WL_pure rfl rfl (by decide) (Pu_assign rfl rfl) (WL_nil (X_then ?_)))
            refine W_ret (X_then_ret (X_block_ret (X_then_ret (X_then_ret (X_block_ret (X_then_ret ?_))))))
            exact X_ret [] (Ps := []) (resC2 (r := 102) Tryz.results44 rfl rfl Tryz.isAgg42 Tryz.sizeOf42 rfl (nodeC_length zeroId_length)) rfl (by decide) ⟨by rw [hres] <;> rfl, rfl⟩
    ·
      have hge : (splitN path).1.length ≤ x.1 := by have := of_decide_eq_false hc33; omega
      refine W_exit (X_then_exit (X_then_exit (X_block_exit (X_then ?_))))
      refine W_seq ?_
      refine W_seq ?_
      refine W.pre (K' := [(0, _), (6, _), (9, _), (10, _), (30, _), (31, _), (32, _), (33, _)]) (L' := [(0, _), (102, _), (200, _), (301, _)]) ?_ ⟨rfl, ⟨rfl, ⟨rfl, ⟨rfl, ⟨rfl, ⟨rfl, ⟨rfl, ⟨rfl, trivial⟩⟩⟩⟩⟩⟩⟩⟩ ⟨rfl, ⟨rfl, ⟨rfl, ⟨rfl, trivial⟩⟩⟩⟩
      refine W_regL (WL_pure rfl rfl (by decide) (Pu_move rfl rfl) (WL_pure rfl rfl (by decide) (Pu_bin rfl rfl rfl (run_neq _ _ _ _ _ _)) (WL_nil (X_then ?_))))
      refine W_cond rfl (fun hc64 => ?_) (fun hc64 => ?_)
      ·
        have he0 : x.2.2 ≠ 0 := by simpa using hc64
        have hres : pathV (vw ls) top path = (nd0, x.2.2) := by rw [hx4, if_pos he0]
        refine W_seq ?_
        refine W.pre (K' := [(0, _), (6, _), (9, _), (10, _), (30, _), (31, _), (32, _), (33, _), (64, _)]) (L' := [(0, _), (102, _), (200, _), (301, _)]) ?_ ⟨rfl, ⟨rfl, ⟨rfl, ⟨rfl, ⟨rfl, ⟨rfl, ⟨rfl, ⟨rfl, ⟨rfl, trivial⟩⟩⟩⟩⟩⟩⟩⟩⟩ ⟨rfl, ⟨rfl, ⟨rfl, ⟨rfl, trivial⟩⟩⟩⟩
        refine W_regL (WL_pure rfl rfl (by decide) (Pu_build (V := .agg (nodeC 0 0 0 zeroId).toArray) [(0, 1), (1, 1), (2, 1), (3, 32)] (nodeC 0 0 0 zeroId) rfl rfl (by kernel_rfl) (by kernel_rfl) (.nil _) rfl) (WL_pure rfl rfl (by decide) (Pu_move rfl rfl) (WL_cons0 rfl rfl (OpT_storeAll (r := 102) rfl Tryz.sizeOf42 rfl rfl rfl (nodeC_length zeroId_length) (nodeC_length zeroId_length) (one_node _ _ _ _) ?_))))
        refine (WL_pure rfl rfl (by decide) (Pu_assign rfl rfl) (WL_nil (X_then ?_)))
        refine W_ret (X_then_ret ?_)
        exact X_ret [] (Ps := []) (resC2 (r := 102) Tryz.results44 rfl rfl Tryz.isAgg42 Tryz.sizeOf42 rfl (nodeC_length zeroId_length)) rfl (by decide) ⟨by rw [hres] <;> rfl, rfl⟩
      ·
        have he0 : x.2.2 = 0 := not_decE hc64
        have hres : pathV (vw ls) top path = (x.2.1, 0) := by rw [hx4, if_neg (fun h => h he0), List.drop_of_length_le hge]; rfl
        refine W_skip (X_then ?_)
        refine W_seq ?_
        refine W.pre (K' := [(0, _), (6, _), (9, _), (10, _), (30, _), (31, _), (32, _), (33, _), (64, _)]) (L' := [(0, _), (102, _), (200, _), (301, _)]) ?_ ⟨rfl, ⟨rfl, ⟨rfl, ⟨rfl, ⟨rfl, ⟨rfl, ⟨rfl, ⟨rfl, ⟨rfl, trivial⟩⟩⟩⟩⟩⟩⟩⟩⟩ ⟨rfl, ⟨rfl, ⟨rfl, ⟨rfl, trivial⟩⟩⟩⟩
        refine W_regL (WL_pure rfl rfl (by decide) (Pu_loadBN (r := 301) rfl Tryz.isAgg42 Tryz.sizeOf42 rfl rfl (ndC_length hx2) (load_all (ndC_length hx2))) (WL_cons0 rfl rfl (OpT_storeAll (r := 102) rfl Tryz.sizeOf42 rfl rfl rfl (nodeC_length zeroId_length) (ndC_length hx2) (one_node _ _ _ _) ?_)))
        refine (WL_pure rfl rfl (by decide) (Pu_assign rfl rfl) (WL_nil (X_then ?_)))
        refine W_ret ?_
        exact X_ret [] (Ps := []) (resC2 (r := 102) Tryz.results44 rfl rfl Tryz.isAgg42 Tryz.sizeOf42 rfl (ndC_length hx2)) rfl (by decide) ⟨by rw [hres] <;> rfl, rfl⟩
end Go.Proofs.YthkdkmaacjpneaaGreatDoor
/- Trees: the blocks that count; an inode of a tree. -/
namespace Go.Proofs.YthkdkmaacjpneaaGreatDoor
open Go.RowKit
set_option linter.unusedVariables false
set_option linter.unusedSimpArgs false
set_option maxRecDepth 8000
theorem bvs_len (xs : List BV) : ∀ x ∈ xs, (bvC x).length = 35 := fun x _ => bvC_length x
theorem eb_all {es : List EB} {k : Nat} {b : EB} (hb : es[k]? = some b) : ((recC bvC (es.map (·.1))).drop (k * 35)).take 35 = bvC b.1 := by
  obtain ⟨hk, he⟩ := List.getElem?_eq_some_iff.1 hb
  have := recC_get (d := default) (bvs_len (es.map (·.1))) (show k < (es.map (·.1)).length by rw [List.length_map]; exact hk)
  rw [this]
  congr 1
  simp [hk, he]
theorem put_ents {k : List UInt8} {v : Value} {d : List UInt8} {ls : List LB} (h : lookA k ls = none) : putQ k v (entsL ls) = entsL (ls ++ [(k, v, d)]) := by
  rw [put_new (by rw [entsL_fil, lookQ_fil, h]; rfl)]
  unfold entsL
  rw [List.map_append]
  rfl
theorem viewT_snoc (l : List TB) (b : TB) (k : List UInt8) : viewT (l ++ [b]) k = (viewT l k).or (if b.1 = k ∧ sha b.2.1 = k then some b.2.1 else none) := by
  unfold viewT
  rw [List.find?_append]
  cases h : l.find? (fun b => decide (b.1 = k) && decide (sha b.2.1 = k)) with
  | some x => simp
  | none =>
    simp only [Option.none_or, Option.map_none]
    by_cases h1 : b.1 = k ∧ sha b.2.1 = k
    · simp [List.find?, h1.1, h1.2]
    · rw [if_neg h1]
      have : (decide (b.1 = k) && decide (sha b.2.1 = k)) = false := by
        rw [Bool.and_eq_false_iff, decide_eq_false_iff_not, decide_eq_false_iff_not]
        by_cases h2 : b.1 = k
        · exact .inr fun h3 => h1 ⟨h2, h3⟩
        · exact .inl h2
      simp [List.find?, this]
theorem vw_snoc (ls : List LB) (k0 : List UInt8) (v : Value) (d k : List UInt8) : vw (ls ++ [(k0, v, d)]) k = (vw ls k).or (if k = k0 then some d else none) := by
  unfold vw
  rw [lookA_app, lookA, lookA]
  cases h : lookA k ls with
  | some p => simp
  | none => by_cases hk : k = k0 <;> simp [hk]
theorem take_snoc {es : List EB} {k : Nat} {b : EB} (hb : es[k]? = some b) : (es.take (k + 1)).map toTB = (es.take k).map toTB ++ [toTB b] := by
  rw [List.take_add_one, hb, List.map_append]
  rfl
theorem view_old {ls : List LB} {es : List EB} {k : Nat} {b : EB} {p : Value × List UInt8} (hb : es[k]? = some b) (hv : vw ls = viewT ((es.take k).map toTB)) (hlk : lookA b.1.key ls = some p) : vw ls = viewT ((es.take (k + 1)).map toTB) := by
  rw [take_snoc hb]
  funext q
  rw [viewT_snoc, ← hv]
  by_cases hq : b.1.key = q
  · subst hq; rw [vw_some hlk]; rfl
  · rw [if_neg (fun h => hq h.1), Option.or_none]
theorem view_bad {ls : List LB} {es : List EB} {k : Nat} {b : EB} (hb : es[k]? = some b) (hv : vw ls = viewT ((es.take k).map toTB)) (hne : (sha b.2 == b.1.key) = false) : vw ls = viewT ((es.take (k + 1)).map toTB) := by
  rw [take_snoc hb]
  funext q
  rw [viewT_snoc, ← hv, if_neg (fun h => ?_), Option.or_none]
  have : sha b.2 = b.1.key := h.2.trans h.1.symm
  rw [this] at hne
  simp at hne
theorem view_new {ls : List LB} {es : List EB} {k : Nat} {b : EB} (hb : es[k]? = some b) (hv : vw ls = viewT ((es.take k).map toTB)) (hlk : lookA b.1.key ls = none) (hs : (sha b.2 == b.1.key) = true) : vw (ls ++ [(b.1.key, b.1.sl, b.2)]) = viewT ((es.take (k + 1)).map toTB) := by
  have hs : sha b.2 = b.1.key := by simpa using hs
  rw [take_snoc hb]
  funext q
  rw [viewT_snoc, vw_snoc, ← hv]
  congr 1
  by_cases hq : q = b.1.key
  · subst hq; rw [if_pos rfl, if_pos ⟨rfl, hs⟩]; rfl
  · rw [if_neg hq, if_neg (fun h => hq h.1.symm)]
theorem tree_id {v : Value} {id : List UInt8} (h : id.length = 32) : ((treeC v id).drop 1).take 32 = bs id := by
  show (bs id).take 32 = _
  exact List.take_of_length_le (by rw [bs_length]; omega)
theorem datE_star {Js : List HP} {P : HP} {es : List EB} (k : Nat) (hk : Js[k]? = some P) (hp : ∀ h, P h → datE es h) : ∀ h, starL Js h → datE es h := fun h hs p hpm => rd_star k hk (fun h' hh => hp h' hh p hpm) h hs
theorem look_rd {es : List EB} {ls : List LB} {F : HP} (hD : ∀ h, F h → datE es h) (h0 : ∀ p ∈ ls, ∃ b ∈ es, p.2 = (b.1.sl, b.2)) : ∀ p ∈ ls, ∀ h, F h → rdB p.2.1 p.2.2 h := fun p hp h hh => by
  obtain ⟨b, hb, he⟩ := h0 p hp
  rw [he]
  exact hD h hh b hb
theorem look_spec (es : List EB) (v : Value) (id : List UInt8) (hel : es.length ≤ 1000000000000) (hdl : ∀ b ∈ es, b.2.length ≤ 1000000000) (F : HP) (hF : ∀ h, F h → rdP 35 v (es.map (·.1)).length (recC bvC (es.map (·.1))) h) (hD : ∀ h, F h → datE es h) : CallsS Tryz.prog 43 #[.agg (treeC v id).toArray] F [] (fun r Ps => ∃ gm ls, r = .map (some gm) ∧ Ps = [mapQ idV ok32 gm (entsL ls) none] ∧ (∀ p ∈ ls, ∃ b ∈ es, p.2 = (b.1.sl, b.2)) ∧ vw ls = viewT (es.map toTB)) := by
  have hml : (es.map (·.1)).length = es.length := List.length_map _
  refine callsS_enter Tryz.func43 rfl Tryz.ntmps43 (by simp) (fun E => ?_)
  refine W_seq ?_
  refine W.pre (K' := [(0, _)]) (L' := [(0, _)]) ?_ ⟨rfl, trivial⟩ ⟨rfl, trivial⟩
  refine W_regL (WL_cons rfl rfl (by decide) (OpT_box (r := 101) rfl rfl rfl (fun g101 => (WL_pure rfl rfl (by decide) (Pu_assign rfl rfl) (WL_nil (X_then ?_))))))
  refine W_seq ?_
  refine W.pre (K' := [(0, _), (1, _), (2, _)]) (L' := [(0, _), (101, _)]) ?_ ⟨rfl, ⟨rfl, ⟨rfl, trivial⟩⟩⟩ ⟨rfl, ⟨rfl, trivial⟩⟩
  refine W_regL (WL_cons rfl rfl (by decide) (OpT_makeMapQ (r := 150) (enc := idV) (ok := ok32) rfl (fun gm => ?_)))
  skip
  refine (WL_pure rfl rfl (by decide) (Pu_assign rfl rfl) (WL_nil (X_then ?_)))
  refine W_seq ?_
  refine W_seq ?_
  refine W.pre (K' := [(0, _), (1, _), (2, _), (3, _)]) (L' := [(0, _), (101, _), (150, _)]) ?_ ⟨rfl, ⟨rfl, ⟨rfl, ⟨rfl, trivial⟩⟩⟩⟩ ⟨rfl, ⟨rfl, ⟨rfl, trivial⟩⟩⟩
  refine W_regL (WL_pure rfl rfl (by decide) (Pu_fieldAddrB (off := 0) rfl rfl (by kernel_rfl)) (WL_pure rfl rfl (by decide) (Pu_loadB (r := 101) rfl Tryz.isAgg27 rfl rfl rfl) (WL_pure rfl rfl (by decide) (Pu_len (r := 0) rfl Tryz.runUnderlying27 rfl rfl hF) (WL_pure rfl rfl (by decide) (Pu_move rfl rfl) (WL_nil (X_then ?_))))))
  refine W_block ?_
  rw [hml]
  refine W_loop (α := Nat × List LB) (fun x => [(3, .map (some gm)), (10, v), (11, .int .i64 (es.length : Int)), (12, .int .i64 (x.1 : Int))]) (fun x => [(0, F), (150, mapQ idV ok32 gm (entsL x.2) none), (101, blk g101 31 (treeC v id))]) (fun x => x.1 ≤ es.length ∧ (∀ p ∈ x.2, ∃ b ∈ es, p.2 = (b.1.sl, b.2)) ∧ vw x.2 = viewT ((es.take x.1).map toTB)) (fun x => es.length - x.1) ((0, [])) ⟨Nat.zero_le _, fun p hp => absurd hp (by simp), rfl⟩ ⟨rfl, ⟨rfl, ⟨rfl, ⟨rfl, trivial⟩⟩⟩⟩ ⟨rfl, ⟨rfl, ⟨rfl, trivial⟩⟩⟩ (fun x hx => ?_)
  obtain ⟨hx1, hx2, hx3⟩ := hx
  refine W_seq ?_
  refine W.pre (K' := [(3, _), (10, _), (11, _), (12, _)]) (L' := [(0, _), (101, _), (150, _)]) ?_ ⟨rfl, ⟨rfl, ⟨rfl, ⟨rfl, trivial⟩⟩⟩⟩ ⟨rfl, ⟨rfl, ⟨rfl, trivial⟩⟩⟩
  refine W_regL (WL_pure rfl rfl (by decide) (Pu_bin rfl rfl rfl (run_lss _ _ _ _ _ _)) (WL_nil (X_then ?_)))
  refine W_seq ?_
  refine W_cond rfl (fun hc13 => ?_) (fun hc13 => ?_)
  ·
    have hlt : x.1 < es.length := by have := of_decide_eq_true hc13; omega
    obtain ⟨b, hb⟩ : ∃ b, es[x.1]? = some b := ⟨_, List.getElem?_eq_getElem hlt⟩
    have hbm := List.mem_of_getElem? hb
    refine W_skip (X_then ?_)
    refine W_seq ?_
    refine W_block ?_
    refine W_seq ?_
    refine W.pre (K' := [(3, _), (10, _), (11, _), (12, _), (13, _)]) (L' := [(0, _), (101, _), (150, _)]) ?_ ⟨rfl, ⟨rfl, ⟨rfl, ⟨rfl, ⟨rfl, trivial⟩⟩⟩⟩⟩ ⟨rfl, ⟨rfl, ⟨rfl, trivial⟩⟩⟩
    refine W_regL (WL_pure rfl rfl (by decide) (Pu_idxS (r := 0) rfl Tryz.runUnderlying27 Tryz.sizeOf59 rfl rfl rfl hF (by rw [hml]; omega)) (WL_pure rfl rfl (by decide) (Pu_loadSN (r := 0) rfl Tryz.isAgg59 Tryz.sizeOf59 rfl rfl hF (bvC_length b.1) (by decide) (eb_all hb)) (WL_cons rfl rfl (by decide) (OpT_alloc (r := 102) rfl (zero_run (by kernel_rfl : (Tryz.prog.info? 59).bind (·.zero) = some (.agg (bkC zeroId (.slice none 0 0) 0 0).toArray))) rfl (fun g102 => (WL_cons0 rfl rfl (OpT_storeAll (r := 102) rfl Tryz.sizeOf59 rfl rfl rfl (bkC_length zeroId_length) (bvC_length b.1) (bvC_one b.1) ?_)))))))
    refine (WL_nil (X_then ?_))
    refine W_seq ?_
    refine W.pre (K' := [(3, _), (5, _), (10, _), (11, _), (12, _), (13, _)]) (L' := [(0, _), (101, _), (102, _), (150, _)]) ?_ ⟨rfl, ⟨rfl, ⟨rfl, ⟨rfl, ⟨rfl, ⟨rfl, trivial⟩⟩⟩⟩⟩⟩ ⟨rfl, ⟨rfl, ⟨rfl, ⟨rfl, trivial⟩⟩⟩⟩
    refine W_regL (WL_pure rfl rfl (by decide) (Pu_move rfl rfl) (WL_pure rfl rfl (by decide) (Pu_fieldAddrB (off := 0) rfl rfl (by kernel_rfl)) (WL_pure rfl rfl (by decide) (Pu_loadBN (r := 102) rfl Tryz.isAgg29 Tryz.sizeOf29 rfl rfl ((bs_length _).trans b.1.len) (bk_key b.1.len)) (WL_pure rfl rfl (by decide) (Pu_lookupOkQ (r := 150) keyB rfl Tryz.underlying93 Tryz.zeroValue36 rfl rfl b.1.len rfl) ?_))))
    rw [entsL_fil, lookQ_fil]
    refine (WL_pure rfl rfl (by decide) (Pu_move rfl rfl) (WL_pure rfl rfl (by decide) (Pu_extract rfl rfl rfl) (WL_pure rfl rfl (by decide) (Pu_extract rfl rfl rfl) (WL_pure rfl rfl (by decide) (Pu_assign rfl rfl) (WL_pure rfl rfl (by decide) (Pu_assign rfl rfl) (WL_nil (X_then ?_)))))))
    refine W_seq ?_
    refine W.pre (K' := [(3, _), (5, _), (7, _), (10, _), (11, _), (12, _), (13, _)]) (L' := [(0, _), (101, _), (102, _), (150, _)]) ?_ ⟨rfl, ⟨rfl, ⟨rfl, ⟨rfl, ⟨rfl, ⟨rfl, ⟨rfl, trivial⟩⟩⟩⟩⟩⟩⟩ ⟨rfl, ⟨rfl, ⟨rfl, ⟨rfl, trivial⟩⟩⟩⟩
    rcases Bool.eq_false_or_eq_true ((lookA b.1.key x.2).isSome) with hsp6 | hsp6
    ·
      obtain ⟨p, hlk⟩ := is_some_T hsp6
      rw [hlk]
      refine W_draw (N := 10) (by kernel_rfl) rfl [(0, _), (101, _), (102, _)] ⟨rfl, ⟨rfl, ⟨rfl, trivial⟩⟩⟩ ?_
      refine (AH_take 0 rfl (by kernel_rfl) (by kernel_rfl) (by kernel_rfl) rfl rfl (by decide) (Pu_move rfl rfl) (AH_take 1 rfl (by kernel_rfl) (by kernel_rfl) (by kernel_rfl) rfl rfl (by decide) (Pu_un rfl rfl (run_not _)) (AH_take 2 rfl (by kernel_rfl) (by kernel_rfl) (by kernel_rfl) rfl rfl (by decide) (Pu_move rfl rfl) (AH_takeF 3 rfl (by kernel_rfl) (by kernel_rfl) (by kernel_rfl) rfl rfl rfl rfl rfl (by decide) (AH_takeF 4 rfl (by kernel_rfl) (by kernel_rfl) (by kernel_rfl) rfl rfl rfl rfl rfl (by decide) (AH_takeF 6 rfl (by kernel_rfl) (by kernel_rfl) (by kernel_rfl) rfl rfl rfl rfl rfl (by decide) (AH_takeF 7 rfl (by kernel_rfl) (by kernel_rfl) (by kernel_rfl) rfl rfl rfl rfl rfl (by decide) (AH_ready [5] (by kernel_rfl) (by decide) ?_))))))))
      refine AHs_gF rfl rfl rfl rfl rfl rfl (by decide) ?_ ?_
      ·
        refine (AH_takeF 8 rfl (by kernel_rfl) (by kernel_rfl) (by kernel_rfl) rfl rfl rfl rfl rfl (by decide) (AH_take 9 rfl (by kernel_rfl) (by kernel_rfl) (by kernel_rfl) rfl rfl (by decide) (Pu_pickF rfl rfl rfl rfl) (AH_done (by kernel_rfl) (X_then ?_))))
        refine W_false rfl (rfl) ?_
        refine W_skip (X_block (X_then ?_))
        refine W.pre (K' := [(3, _), (5, _), (7, _), (10, _), (11, _), (12, _), (13, _), (32, _)]) (L' := [(0, _), (101, _), (102, _), (150, _)]) ?_ ⟨rfl, ⟨rfl, ⟨rfl, ⟨rfl, ⟨rfl, ⟨rfl, ⟨rfl, ⟨rfl, trivial⟩⟩⟩⟩⟩⟩⟩⟩ ⟨rfl, ⟨rfl, ⟨rfl, ⟨rfl, trivial⟩⟩⟩⟩
        refine W_regL (WL_pure rfl rfl (by decide) (Pu_bin rfl rfl rfl (run_add _ _ _ _ _ (by omega))) (WL_pure rfl rfl (by decide) (Pu_move rfl rfl) (WL_nil ?_)))
        exact X_round (x.1 + 1, x.2) ⟨by dsimp only; omega, hx2, view_old hb hx3 hlk⟩ (by dsimp only; omega) ⟨rfl, rfl, rfl, rfl, trivial⟩ ⟨rfl, rfl, rfl, trivial⟩
      exact AHs_nil
    ·
      have hlk := is_none_F hsp6
      rw [hlk]
      refine W_draw (N := 10) (by kernel_rfl) rfl [(0, _), (101, _), (102, _)] ⟨rfl, ⟨rfl, ⟨rfl, trivial⟩⟩⟩ ?_
      refine (AH_take 0 rfl (by kernel_rfl) (by kernel_rfl) (by kernel_rfl) rfl rfl (by decide) (Pu_move rfl rfl) (AH_take 1 rfl (by kernel_rfl) (by kernel_rfl) (by kernel_rfl) rfl rfl (by decide) (Pu_un rfl rfl (run_not _)) (AH_take 2 rfl (by kernel_rfl) (by kernel_rfl) (by kernel_rfl) rfl rfl (by decide) (Pu_move rfl rfl) (AH_takeT 3 rfl (by kernel_rfl) (by kernel_rfl) (by kernel_rfl) rfl rfl rfl rfl rfl (by decide) (Pu_fieldAddrB (off := 32) rfl rfl (by kernel_rfl)) (AH_takeT 4 rfl (by kernel_rfl) (by kernel_rfl) (by kernel_rfl) rfl rfl rfl rfl rfl (by decide) (Pu_loadB (r := 102) rfl Tryz.isAgg36 rfl rfl (bk_data b.1.len)) (AH_takeT 6 rfl (by kernel_rfl) (by kernel_rfl) (by kernel_rfl) rfl rfl rfl rfl rfl (by decide) (Pu_fieldAddrB (off := 0) rfl rfl (by kernel_rfl)) (AH_takeT 7 rfl (by kernel_rfl) (by kernel_rfl) (by kernel_rfl) rfl rfl rfl rfl rfl (by decide) (Pu_loadBN (r := 102) rfl Tryz.isAgg29 Tryz.sizeOf29 rfl rfl ((bs_length _).trans b.1.len) (bk_key b.1.len)) (AH_ready [5] (by kernel_rfl) (by decide) ?_))))))))
      refine AHs_gT rfl rfl rfl rfl rfl rfl (by decide) (OpT_call 200 [0, 101, 102, 150] [] rfl Tryz.call72 rfl rfl rfl (by decide) (by decide) (sum_spec b.1.sl b.2 (hdl b hbm) _ (rd_star 0 rfl (fun h hp => hD h hp b hbm))) (fun v28 Ps28 hR28 => ?_)) ?_
      ·
        obtain ⟨rfl, rfl⟩ := hR28
        refine ⟨⟨rfl, ⟨rfl, ⟨rfl, trivial⟩⟩⟩, ?_⟩
        refine (AH_takeT 8 rfl (by kernel_rfl) (by kernel_rfl) (by kernel_rfl) rfl rfl rfl rfl rfl (by decide) (Pu_bin rfl rfl rfl (run_idEq _ _ (sha_length _) b.1.len _ _)) (AH_take 9 rfl (by kernel_rfl) (by kernel_rfl) (by kernel_rfl) rfl rfl (by decide) (Pu_pickT rfl rfl rfl rfl) (AH_done (by kernel_rfl) (X_then ?_))))
        refine W_cond rfl (fun hc32 => ?_) (fun hc32 => ?_)
        ·
          refine W.pre (K' := [(3, _), (5, _), (7, _), (10, _), (11, _), (12, _), (13, _), (32, _)]) (L' := [(0, _), (101, _), (102, _), (150, _)]) ?_ ⟨rfl, ⟨rfl, ⟨rfl, ⟨rfl, ⟨rfl, ⟨rfl, ⟨rfl, ⟨rfl, trivial⟩⟩⟩⟩⟩⟩⟩⟩ ⟨rfl, ⟨rfl, ⟨rfl, ⟨rfl, trivial⟩⟩⟩⟩
          refine W_regL (WL_pure rfl rfl (by decide) (Pu_move rfl rfl) (WL_pure rfl rfl (by decide) (Pu_fieldAddrB (off := 0) rfl rfl (by kernel_rfl)) (WL_pure rfl rfl (by decide) (Pu_loadBN (r := 102) rfl Tryz.isAgg29 Tryz.sizeOf29 rfl rfl ((bs_length _).trans b.1.len) (bk_key b.1.len)) (WL_pure rfl rfl (by decide) (Pu_fieldAddrB (off := 32) rfl rfl (by kernel_rfl)) (WL_pure rfl rfl (by decide) (Pu_loadB (r := 102) rfl Tryz.isAgg36 rfl rfl (bk_data b.1.len)) (WL_cons0 rfl rfl (OpT_mapPutQ (r := 150) (k := b.1.key) (v := b.1.sl) (es := entsL x.2) (g := gm) keyB rfl Tryz.underlying93 rfl rfl b.1.len rfl rfl ?_)))))))
          refine (WL_nil (X_block (X_then ?_)))
          refine W.pre (K' := [(3, _), (5, _), (7, _), (10, _), (11, _), (12, _), (13, _), (32, _)]) (L' := [(0, _), (101, _), (102, _), (150, _)]) ?_ ⟨rfl, ⟨rfl, ⟨rfl, ⟨rfl, ⟨rfl, ⟨rfl, ⟨rfl, ⟨rfl, trivial⟩⟩⟩⟩⟩⟩⟩⟩ ⟨rfl, ⟨rfl, ⟨rfl, ⟨rfl, trivial⟩⟩⟩⟩
          refine W_regL (WL_pure rfl rfl (by decide) (Pu_bin rfl rfl rfl (run_add _ _ _ _ _ (by omega))) (WL_pure rfl rfl (by decide) (Pu_move rfl rfl) (WL_nil ?_)))
          refine X_turn (P' := mapQ idV ok32 gm (entsL (x.2 ++ [(b.1.key, b.1.sl, b.2)])) none) 150 rfl (fun h hp => by rw [← put_ents hlk]; exact hp) ?_
          exact X_round (x.1 + 1, x.2 ++ [(b.1.key, b.1.sl, b.2)]) ⟨by dsimp only; omega, fun p hp => (List.mem_append.1 hp).elim (hx2 p) (fun h => ⟨b, hbm, by rw [List.mem_singleton.1 h]⟩), view_new hb hx3 hlk hc32⟩ (by dsimp only; omega) ⟨rfl, rfl, rfl, rfl, trivial⟩ ⟨rfl, rfl, rfl, trivial⟩
        ·
          refine W_skip (X_block (X_then ?_))
          refine W.pre (K' := [(3, _), (5, _), (7, _), (10, _), (11, _), (12, _), (13, _), (32, _)]) (L' := [(0, _), (101, _), (102, _), (150, _)]) ?_ ⟨rfl, ⟨rfl, ⟨rfl, ⟨rfl, ⟨rfl, ⟨rfl, ⟨rfl, ⟨rfl, trivial⟩⟩⟩⟩⟩⟩⟩⟩ ⟨rfl, ⟨rfl, ⟨rfl, ⟨rfl, trivial⟩⟩⟩⟩
          refine W_regL (WL_pure rfl rfl (by decide) (Pu_bin rfl rfl rfl (run_add _ _ _ _ _ (by omega))) (WL_pure rfl rfl (by decide) (Pu_move rfl rfl) (WL_nil ?_)))
          exact X_round (x.1 + 1, x.2) ⟨by dsimp only; omega, hx2, view_bad hb hx3 hc32⟩ (by dsimp only; omega) ⟨rfl, rfl, rfl, rfl, trivial⟩ ⟨rfl, rfl, rfl, trivial⟩
      exact AHs_nil
  ·
    have hge : es.length ≤ x.1 := by have := of_decide_eq_false hc13; omega
    refine W_exit (X_then_exit (X_then_exit (X_block_exit (X_then ?_))))
    refine W_seq ?_
    refine W.pre (K' := [(3, _), (10, _), (11, _), (12, _), (13, _)]) (L' := [(0, _), (101, _), (150, _)]) ?_ ⟨rfl, ⟨rfl, ⟨rfl, ⟨rfl, ⟨rfl, trivial⟩⟩⟩⟩⟩ ⟨rfl, ⟨rfl, ⟨rfl, trivial⟩⟩⟩
    refine W_regL (WL_pure rfl rfl (by decide) (Pu_move rfl rfl) (WL_pure rfl rfl (by decide) (Pu_assign rfl rfl) (WL_nil (X_then ?_))))
    refine W_ret ?_
    exact X_ret [150] (Ps := [_]) (res1 Tryz.results43 rfl) rfl (by decide) ⟨gm, x.2, rfl, rfl, hx2, by rw [hx3, List.take_of_length_le hge]⟩
theorem find_spec (es : List EB) (v : Value) (id : List UInt8) (hid : id.length = 32) (hel : es.length ≤ 1000000000000) (hdl : ∀ b ∈ es, b.2.length ≤ 1000000000) (F : HP) (hF : ∀ h, F h → rdP 35 v (es.map (·.1)).length (recC bvC (es.map (·.1))) h) (hD : ∀ h, F h → datE es h) (hT : ∀ h, F h → tabsP h) (path : List UInt8) (hpl : path.length ≤ 1000000000) : CallsS Tryz.prog 19 #[.agg (treeC v id).toArray, sV path] F [] (fun r Ps => r = .tuple #[.agg (ndC (pathV (viewT (es.map toTB)) id path).1).toArray, .int .i64 (pathV (viewT (es.map toTB)) id path).2] ∧ Ps = []) := by
  refine callsS_enter Tryz.func19 rfl Tryz.ntmps19 (by simp) (fun E => ?_)
  refine W_seq ?_
  refine W.pre (K' := [(0, _), (1, _)]) (L' := [(0, _)]) ?_ ⟨rfl, ⟨rfl, trivial⟩⟩ ⟨rfl, trivial⟩
  refine W_regL (WL_cons rfl rfl (by decide) (OpT_box (r := 101) rfl rfl rfl (fun g101 => (WL_cons rfl rfl (by decide) (OpT_alloc (r := 102) (cs := (nodeC 0 0 0 zeroId)) rfl (zero_run (by kernel_rfl : (Tryz.prog.info? 42).bind (·.zero) = some (.agg (nodeC 0 0 0 zeroId).toArray))) rfl (fun g102 => (WL_pure rfl rfl (by decide) (Pu_assign rfl rfl) (WL_nil (X_then ?_)))))))))
  refine W_seq ?_
  refine W.pre (K' := [(0, _), (1, _), (2, _), (4, _), (5, _)]) (L' := [(0, _), (101, _), (102, _)]) ?_ ⟨rfl, ⟨rfl, ⟨rfl, ⟨rfl, ⟨rfl, trivial⟩⟩⟩⟩⟩ ⟨rfl, ⟨rfl, ⟨rfl, trivial⟩⟩⟩
  refine W_draw (N := 10) (by kernel_rfl) rfl [(0, _), (101, _)] ⟨rfl, ⟨rfl, trivial⟩⟩ ?_
  refine (AH_take 0 rfl (by kernel_rfl) (by kernel_rfl) (by kernel_rfl) rfl rfl (by decide) (Pu_loadBN (r := 101) rfl Tryz.isAgg31 Tryz.sizeOf31 rfl rfl (treeC_length hid) (load_all (treeC_length hid))) (AH_take 2 rfl (by kernel_rfl) (by kernel_rfl) (by kernel_rfl) rfl rfl (by decide) (Pu_fieldAddrB (off := 1) rfl rfl (by kernel_rfl)) (AH_take 3 rfl (by kernel_rfl) (by kernel_rfl) (by kernel_rfl) rfl rfl (by decide) (Pu_loadBN (r := 101) rfl Tryz.isAgg29 Tryz.sizeOf29 rfl rfl ((bs_length _).trans hid) (tree_id hid)) (AH_take 4 rfl (by kernel_rfl) (by kernel_rfl) (by kernel_rfl) rfl rfl (by decide) (Pu_move rfl rfl) (AH_ready [1] (by kernel_rfl) (by decide) ?_)))))
  refine AHs_cons rfl rfl rfl (by decide) (OpT_call 200 [0, 101, 102] [] rfl Tryz.call43 rfl rfl rfl (by decide) (by decide) (look_spec es v id hel hdl _ (rd_star 0 rfl hF) (datE_star 0 rfl hD)) (fun v7 Ps7 hR7 => ?_)) ?_
  ·
    obtain ⟨gm, ls, rfl, rfl, hL0, hvw⟩ := hR7
    refine ⟨⟨rfl, ⟨rfl, trivial⟩⟩, ?_⟩
    skip
    refine (AH_ready [5] (by kernel_rfl) (by decide) ?_)
    refine AHs_cons rfl rfl rfl (by decide) (OpT_call 300 [0, 101, 102, 200] [] rfl Tryz.call44 rfl rfl rfl (by decide) (by decide) (view_find gm ls _ (mapQ_star 3 rfl (fun _ h => h)) (fun p0 hp0 => rd_star 0 rfl (look_rd hD hL0 p0 hp0)) (tabs_star 0 rfl hT) id path hid hpl) (fun v11 Ps11 hR11 => ?_)) ?_
    ·
      obtain ⟨rfl, rfl⟩ := hR11
      refine ⟨⟨rfl, ⟨rfl, trivial⟩⟩, ?_⟩
      rw [hvw]
      refine (AH_take 6 rfl (by kernel_rfl) (by kernel_rfl) (by kernel_rfl) rfl rfl (by decide) (Pu_extract rfl rfl rfl) (AH_take 7 rfl (by kernel_rfl) (by kernel_rfl) (by kernel_rfl) rfl rfl (by decide) (Pu_extract rfl rfl rfl) (AH_ready [8] (by kernel_rfl) (by decide) ?_)))
      refine AHs_cons0 rfl rfl rfl (OpT_storeAll (r := 102) rfl Tryz.sizeOf42 rfl rfl rfl (nodeC_length zeroId_length) (ndC_length (pathV_top _ _ _)) (one_node _ _ _ _) ?_) ?_
      ·
        refine ⟨⟨rfl, ⟨rfl, trivial⟩⟩, ?_⟩
        refine (AH_take 9 rfl (by kernel_rfl) (by kernel_rfl) (by kernel_rfl) rfl rfl (by decide) (Pu_assign rfl rfl) (AH_done (by kernel_rfl) (X_then ?_)))
        refine W_ret ?_
        exact X_ret [] (Ps := []) (resC2 (r := 102) Tryz.results19 rfl rfl Tryz.isAgg42 Tryz.sizeOf42 rfl (ndC_length (pathV_top _ _ _))) rfl (by decide) ⟨rfl, rfl⟩
      exact AHs_nil
    exact AHs_nil
  exact AHs_nil
end Go.Proofs.YthkdkmaacjpneaaGreatDoor
/- Trees: the tree of nothing, in words. -/
namespace Go.Proofs.YthkdkmaacjpneaaGreatDoor
open Go.RowKit
set_option linter.unusedVariables false
set_option linter.unusedSimpArgs false
set_option maxRecDepth 8000
theorem dir_none : dirR [] = [] := by decide
theorem rows_none : rowsD [] = [] := rfl
theorem above_none : aboveD [] = ([], 0, []) := by unfold aboveD; rw [rows_none]; exact above_small (by simp)
theorem node_none : nodeF 2 [] = inodeB 2 0 0 zeroId := by
  unfold nodeF topF
  rw [above_none]
  decide
theorem blocks_none : blocksF 2 [] = [nodeF 2 []] := by unfold blocksF; rw [above_none, rows_none]; rfl
theorem parse_none : parseI (nodeF 2 []) = ((2, 0, 0, zeroId), 0) := by rw [node_none]; exact parse_inode zeroId_length (by decide)
theorem filled_none {T : HT} (h : Filled [] T) : idT T = sha (nodeF 2 []) ∧ blocksT T = [nodeF 2 []] := by
  generalize hl : ([] : List F3) = l at h
  cases h with
  | nil g gd gf =>
    refine ⟨?_, ?_⟩
    · rw [idT, entsD]
      show idF 2 (dirR []) = _
      rw [dir_none]
      rfl
    · rw [blocksT, entsD, blocksDs]
      show [] ++ [] ++ blocksF 2 (dirR []) = _
      rw [dir_none, blocks_none]
      rfl
  | snoc l x T T' h1 h2 h3 => simp at hl
theorem tree_one {d : List UInt8} {l : List TB} (h : TreeOf [d] l) : l = [(sha d, d, 0, 0)] := by
  have hall : ∀ p ∈ l, p = (sha d, d, 0, 0) := fun p hp => by
    obtain ⟨h1, h2, h3⟩ := h.from_ p hp
    have h2 : p.2.1 = d := by simpa using h2
    obtain ⟨p1, p2, p3⟩ := p
    simp only at h1 h2 h3
    subst h2; subst h1; rw [h3]
  match l, h, hall with
  | [], h, _ => have := h.all d (by simp); simp at this
  | [p], _, hall => rw [hall p (by simp)]
  | p :: q :: r, h, hall =>
    have h1 := (List.pairwise_cons.1 h.sorted).1 q (by simp)
    rw [hall p (by simp), hall q (by simp), ltK_irrefl] at h1
    cases h1
theorem split_top : splitN [47] = ([], 0) := by unfold splitN; rw [if_pos rfl]
theorem path_none : pathV (viewT [(sha (nodeF 2 []), nodeF 2 [], 0, 0)]) (sha (nodeF 2 [])) [47] = ((2, 0, 0, zeroId), 0) := by
  have hv : viewT [(sha (nodeF 2 []), nodeF 2 [], 0, 0)] (sha (nodeF 2 [])) = some (nodeF 2 []) := by
    unfold viewT
    simp [List.find?]
  have hi : inodeV (viewT [(sha (nodeF 2 []), nodeF 2 [], 0, 0)]) (sha (nodeF 2 [])) = ((2, 0, 0, zeroId), 0) := by
    unfold inodeV
    rw [hv]
    exact parse_none
  unfold pathV
  rw [split_top, hi]
  rfl
theorem build_none : buildE [] = 0 := rfl
theorem node_len : (nodeF 2 []).length ≤ 39 := by rw [node_none]; decide
end Go.Proofs.YthkdkmaacjpneaaGreatDoor
/- Trees: the tree of nothing. -/
namespace Go.Proofs.YthkdkmaacjpneaaGreatDoor
open Go.RowKit
set_option linter.unusedVariables false
set_option linter.unusedSimpArgs false
set_option maxRecDepth 8000
theorem W_openTree {P : Program} {E : Env} {n : Nat} {K : Slots} {L : Res} {Q : Exit → Act → World → Prop} {c : Code} (r b : Nat) {v : Value} {l : List TB} (hr : look L r = some (treeP v l))
    (k : ∀ es : List EB, es.map toTB = l → W P E n c K (En b [rowP 59 35 v es.length (recC bvC (es.map (·.1))), datE es] ++ (r, emp) :: L) Q) : W P E n c K L Q :=
  W_open (φ := fun es : List EB => es.map toTB = l) (Ps := fun es : List EB => [rowP 59 35 v es.length (recC bvC (es.map (fun p : EB => p.1))), datE es]) r b hr (fun h hp => by exact hp) (fun q hq => k q hq)
theorem treeP_one {v : Value} {l : List TB} {h : Hlt} (hp : treeP v l h) : v.oneCell' = true := by
  obtain ⟨es, _, hs⟩ := hp
  exact starL_pick hs 0 rfl fun h' h2 => rd_one (rowP_rd h2)
theorem known10_spec (F : HP) (hT : ∀ h, F h → tabsP h) : CallsS Tryz.prog 13 #[] F [] (fun r Ps => r = .bool true ∧ Ps = []) := by
  refine callsS_enter Tryz.func13 rfl Tryz.ntmps13 (by simp) (fun E => ?_)
  refine W_seq ?_
  refine W_regL (WL_pure rfl rfl (by decide) (Pu_assign rfl rfl) (WL_nil (X_then ?_)))
  refine W_seq ?_
  refine W.pre (K' := [(0, _)]) (L' := [(0, _)]) ?_ ⟨rfl, trivial⟩ ⟨rfl, trivial⟩
  refine W_regL (WL_cons rfl rfl (by decide) (OpT_call 200 [0] [] rfl Tryz.call16 rfl rfl rfl (by decide) (by decide) (build_spec (.slice none 0 0) [] (by decide) (fun x hx => absurd hx (by simp)) _ (fun h _ => rd_nil0) (fun h _ x hx => absurd hx (by simp)) (tabs_star 0 rfl hT)) (fun v6 Ps6 hR6 => ?_)))
  obtain ⟨vb, id, l, rfl, rfl, hid, hbad, hgood⟩ := hR6
  skip
  refine WL_fact (r := 200) rfl (fun h hp => treeP_one hp) (fun (hvo : vb.oneCell' = true) => ?_)
  refine (WL_pure rfl rfl (by decide) (Pu_move rfl rfl) (WL_pure rfl rfl (by decide) (Pu_extract rfl rfl rfl) (WL_pure rfl rfl (by decide) (Pu_extract rfl rfl rfl) (WL_cons rfl rfl (by decide) (OpT_alloc (r := 201) (cs := (treeC (.slice none 0 0) zeroId)) rfl (zero_run (by kernel_rfl : (Tryz.prog.info? 31).bind (·.zero) = some (.agg (treeC (.slice none 0 0) zeroId).toArray))) rfl (fun g201 => (WL_cons0 rfl rfl (OpT_storeAll (r := 201) rfl Tryz.sizeOf31 rfl rfl rfl (treeC_length zeroId_length) (treeC_length hid) (treeC_one hvo) ?_))))))))
  refine (WL_pure rfl rfl (by decide) (Pu_assign rfl rfl) (WL_nil (X_then ?_)))
  refine W_seq ?_
  refine W.pre (K' := [(0, _), (1, _), (2, _)]) (L' := [(0, _), (200, _), (201, _)]) ?_ ⟨rfl, ⟨rfl, ⟨rfl, trivial⟩⟩⟩ ⟨rfl, ⟨rfl, ⟨rfl, trivial⟩⟩⟩
  obtain ⟨T, hfil, hidT, htree⟩ := hgood build_none
  obtain ⟨hi1, hi2⟩ := filled_none hfil
  rw [hi2] at htree
  have hl := tree_one htree
  subst hl
  refine W_openTree 200 700 rfl (fun es hes => ?_)
  have hel : es.length = 1 := by have := congrArg List.length hes; simpa using this
  have hdl : ∀ b ∈ es, b.2.length ≤ 1000000000 := fun b hb => by have h1 : toTB b ∈ es.map toTB := List.mem_map_of_mem hb; rw [hes, List.mem_singleton] at h1; have h2 : b.2 = nodeF 2 [] := congrArg (fun t : TB => t.2.1) h1; rw [h2]; have := node_len; omega
  refine W_regL (WL_pure rfl rfl (by decide) (Pu_loadBN (r := 201) rfl Tryz.isAgg31 Tryz.sizeOf31 rfl rfl (treeC_length hid) (load_all (treeC_length hid))) (WL_cons rfl rfl (by decide) (OpT_call 800 [0, 201, 700, 701] [] rfl Tryz.call19 rfl rfl rfl (by decide) (by decide) (find_spec es vb id hid (by omega) hdl _ (rd_star 2 rfl (fun h hp => by have h2 := rowP_rd hp; rw [List.length_map]; exact h2)) (datE_star 3 rfl (fun _ h => h)) (tabs_star 0 rfl hT) [47] (by decide)) (fun v11 Ps11 hR11 => ?_))))
  obtain ⟨rfl, rfl⟩ := hR11
  rw [hes, hidT, hi1, path_none]
  refine (WL_pure rfl rfl (by decide) (Pu_move rfl rfl) (WL_pure rfl rfl (by decide) (Pu_extract rfl rfl rfl) (WL_pure rfl rfl (by decide) (Pu_extract rfl rfl rfl) (WL_cons rfl rfl (by decide) (OpT_alloc (r := 801) (cs := (nodeC 0 0 0 zeroId)) rfl (zero_run (by kernel_rfl : (Tryz.prog.info? 42).bind (·.zero) = some (.agg (nodeC 0 0 0 zeroId).toArray))) rfl (fun g801 => (WL_cons0 rfl rfl (OpT_storeAll (r := 801) rfl Tryz.sizeOf42 rfl rfl rfl (nodeC_length zeroId_length) (nodeC_length zeroId_length) (one_node _ _ _ _) ?_))))))))
  refine (WL_pure rfl rfl (by decide) (Pu_assign rfl rfl) (WL_nil (X_then ?_)))
  refine W_seq ?_
  refine W.pre (K' := [(0, _), (1, _), (2, _), (3, _), (4, _)]) (L' := [(0, _), (201, _), (700, _), (701, _), (801, _)]) ?_ ⟨rfl, ⟨rfl, ⟨rfl, ⟨rfl, ⟨rfl, trivial⟩⟩⟩⟩⟩ ⟨rfl, ⟨rfl, ⟨rfl, ⟨rfl, ⟨rfl, trivial⟩⟩⟩⟩⟩
  refine W_turn (P' := rowP 59 35 vb 1 (recC bvC (es.map (·.1)))) 700 rfl (fun h hp => by rw [← hel]; exact hp) ?_
  refine W_regL (WL_pure rfl rfl (by decide) (Pu_move rfl rfl) (WL_pure rfl rfl (by decide) (Pu_bin rfl rfl rfl (run_eql _ _ _ _ _ _)) (WL_pure rfl rfl (by decide) (Pu_move rfl rfl) (WL_gPT rfl rfl rfl rfl rfl (by decide) (Pu_fieldAddrB (off := 0) rfl rfl (by kernel_rfl)) (WL_gPT rfl rfl rfl rfl rfl (by decide) (Pu_loadB (r := 201) rfl Tryz.isAgg27 rfl rfl rfl) (WL_gPT rfl rfl rfl rfl rfl (by decide) (Pu_len (r := 700) rfl Tryz.runUnderlying27 rfl rfl (fun _ h => rowP_rd h)) (WL_gPT rfl rfl rfl rfl rfl (by decide) (Pu_bin rfl rfl rfl (run_eql _ _ _ _ _ _)) (WL_pure rfl rfl (by decide) (Pu_pickT rfl rfl rfl rfl) (WL_pure rfl rfl (by decide) (Pu_move rfl rfl) (WL_gPT rfl rfl rfl rfl rfl (by decide) (Pu_move rfl rfl) (WL_gPT rfl rfl rfl rfl rfl (by decide) (Pu_bin rfl rfl rfl (run_eql _ _ _ _ _ _)) (WL_pure rfl rfl (by decide) (Pu_pickT rfl rfl rfl rfl) (WL_pure rfl rfl (by decide) (Pu_move rfl rfl) (WL_gPT rfl rfl rfl rfl rfl (by decide) (Pu_fieldAddrB (off := 0) rfl rfl (by kernel_rfl)) (WL_gPT rfl rfl rfl rfl rfl (by decide) (Pu_loadB (r := 801) rfl Tryz.isAgg3 rfl rfl rfl) (WL_gPT rfl rfl rfl rfl rfl (by decide) (Pu_bin rfl rfl rfl (run_eql _ _ _ _ _ _)) (WL_pure rfl rfl (by decide) (Pu_pickT rfl rfl rfl rfl) (WL_pure rfl rfl (by decide) (Pu_move rfl rfl) (WL_gPT rfl rfl rfl rfl rfl (by decide) (Pu_fieldAddrB (off := 1) rfl rfl (by kernel_rfl)) (WL_gPT rfl rfl rfl rfl rfl (by decide) (Pu_loadB (r := 801) rfl Tryz.isAgg3 rfl rfl rfl) (WL_gPT rfl rfl rfl rfl rfl (by decide) (Pu_bin rfl rfl rfl (run_eql _ _ _ _ _ _)) (WL_pure rfl rfl (by decide) (Pu_pickT rfl rfl rfl rfl) (WL_pure rfl rfl (by decide) (Pu_assign rfl rfl) (WL_nil (X_then ?_)))))))))))))))))))))))))
  refine W_ret ?_
  exact X_ret [] (Ps := []) (res1 Tryz.results13 rfl) rfl (by decide) ⟨rfl, rfl⟩
end Go.Proofs.YthkdkmaacjpneaaGreatDoor
/- Rows that came of a constant string: they can be read, and grow into new ones. -/
namespace Go.Proofs.YthkdkmaacjpneaaGreatDoor
open Go.RowKit
set_option linter.unusedVariables false
set_option linter.unusedSimpArgs false
/-- A row that is full. -/
def fulP (e : TypeId) (v : Value) (xs : List Value) : HP := fun h => ∃ g, v = .slice (some ⟨g, 0, none⟩) xs.length xs.length ∧ h g = some (.cells xs.toArray e (0, 0))
/-- The same, with the mark behind it. -/
def frzP (e : TypeId) (v : Value) (xs : List Value) : HP := fun h => ∃ g, v = .slice (some ⟨g, 0, none⟩) xs.length xs.length ∧ h g = some (.cells xs.toArray e (xs.length, xs.length + 1))
theorem frz_rd {e : TypeId} {v : Value} {xs : List Value} {h : Hlt} (hp : frzP e v xs h) : rdP 1 v xs.length xs h := by
  obtain ⟨g, rfl, hg⟩ := hp
  refine ⟨by simp, _, _, rfl, Nat.le_refl _, fun h => (by cases h), fun ad had j u hu => ?_⟩
  injection had with had
  subst had
  rw [addr_add0]
  simp only [cellH, hg]
  simpa using hu
section
variable {P : Program} {E : Env} {n : Nat} {K : Slots} {L : Res} {o : Oper} {C : Value → Res → Prop}
theorem OpT_buildFull {t e len r : Nat} {ps : List (Nat × Operand)} {vs : List (Nat × Value)} (cs : List Value) {z : Value} (ho : o.op = .buildSlice t len ps.toArray) (hp : evP K ps = some vs) (hu : ∀ w, (underlying t).run P w = .ok (.slice e) w) (hs : ∀ w, (sizeOf e).run P w = .ok 1 w)
    (hz : ∀ w, (zeroValue e).run P w = .ok z w) (hz1 : z.cells = #[z]) (hlen : cs.length = len) (hsm : len ≤ 1000) (hv : vs = (cs.zipIdx 0).map (fun p => (p.2, p.1))) (h1 : ∀ u ∈ cs, u.cells = #[u]) (k : ∀ v, C v ((r, fulP e v cs) :: L)) : OpT P E n o K L C := fun a w Kc Q hA hS hK => by
  have hb := run_buildSlice_ones (P := P) w hu hs cs z hz hz1 hlen hsm hv h1
  have hrun : (execOp a.eval o).run P w = .ok (.value (.slice (some ⟨w.heap.size, 0, none⟩) len len)) (w.alloc (.cells cs.toArray e)) := by
    have hq := evP_map hA hp
    have : (ps.toArray.map fun (i, x) => (i, a.eval x)) = vs.toArray := by simp [← hq]
    simp only [execOp, ho, this, Sem.run_bind, hb]; rfl
  unfold Oper.wp
  rw [hrun]
  refine hK _ _ _ (k _) ?_
  have hS2 := hS.blk r e cs.toArray
  have hS3 := hS2.cons (P' := fulP e (.slice (some ⟨w.heap.size, 0, none⟩) len len) cs) (look_same r _ L) (fun h hb => by
    refine ⟨_, by rw [hlen], ?_⟩
    unfold Proofs.YthkdkmaacjpneaaGreatDoor.blk at hb
    simpa using hb)
  exact hS3.sub (fun r' P' h => by
    by_cases hr : r = r'
    · subst hr; rw [look_same] at h ⊢; exact h
    · rw [look_other hr] at h; rw [look_other hr, look_other hr]; exact h)
theorem run_conv_frz (w : World) {t e g m : Nat} {C : Array Value} (ht : P.underlying t = some (.slice e)) (he : P.underlying e = some (.int .u8)) (hg : w.heap[g]? = some (.cells C e (0, 0))) :
    ∃ w', (convert t t (.slice (some ⟨g, 0, none⟩) m m)).run P w = .ok (.slice (some ⟨g, 0, none⟩) m m) w' ∧ Chg [g] w w' ∧ w'.heap[g]? = some (.cells C e (C.size, C.size + 1)) := by
  have hsh : w.shape? g = some (e, C.size) := by unfold World.shape?; rw [hg]
  refine ⟨w.freeze ⟨g, C.size, none⟩ 1, ?_, ?_, ?_⟩
  · simp [convert, run_underlying ht, run_underlying he, markStringish, hsh]
  · refine ⟨?_, ?_, ?_, ?_, fun j hj hn => ?_⟩
    · unfold World.freeze; split <;> rfl
    · unfold World.freeze; split <;> rfl
    · unfold World.freeze; split <;> rfl
    · unfold World.freeze; split <;> simp
    · unfold World.freeze
      rw [if_neg (by decide)]
      have : g ≠ j := fun h => hn (by simp [h])
      simp [Array.getElem?_modify, this]
  · unfold World.freeze
    rw [if_neg (by decide)]
    simp [Array.getElem?_modify, hg]
theorem OpT_convFrz {t e r : Nat} {x : Operand} {v : Value} {xs : List Value} (ho : o.op = .convert t t x) (ht : P.underlying t = some (.slice e)) (he : P.underlying e = some (.int .u8)) (hx : evK K x = some v) (hr : look L r = some (fulP e v xs)) (k : C v ((r, frzP e v xs) :: L)) : OpT P E n o K L C := fun a w Kc Q hA hS hK => by
  obtain ⟨h, ⟨g, hv, hg⟩, hi⟩ := hS.read hr
  obtain ⟨w', hrun, hc, hg'⟩ := run_conv_frz (P := P) w (m := xs.length) ht he (hi g _ hg)
  subst hv
  unfold Oper.wp execOp
  simp only [ho, hA.eval hx, Sem.run_bind, hrun, Result.andThen_ok, Sem.run_pure]
  refine hK _ _ _ k (hS.step hr fun h hp hin => ?_)
  obtain ⟨g2, hv2, hg2⟩ := hp
  injection hv2 with hv2
  injection hv2 with hv2
  injection hv2 with hv2
  subst hv2
  refine ⟨[g], fun j => if j = g then some (.cells xs.toArray e (xs.length, xs.length + 1)) else none, ?_, hc, ⟨g, rfl, by simp⟩, fun j o hj => ?_, fun j hj => ?_⟩
  · intro j hj
    simp at hj
    subst hj
    simp [hg2]
  · by_cases hjg : j = g
    · subst hjg
      simp at hj
      subst hj
      simpa using hg'
    · simp [hjg] at hj
  · by_cases hjg : j = g
    · subst hjg; left; simp [hg2]
    · simp [hjg] at hj
end
end Go.Proofs.YthkdkmaacjpneaaGreatDoor
/- Trees: what is wrong with some items, worked out. -/
namespace Go.Proofs.YthkdkmaacjpneaaGreatDoor
open Go.RowKit
set_option linter.unusedVariables false
set_option linter.unusedSimpArgs false
set_option maxRecDepth 8000
theorem dat_nil {h : Hlt} : datI [] h := fun x hx => by cases hx
theorem dat_cons {x : F3} {xs : List F3} {h : Hlt} (h1 : rdB x.2.1 x.2.2 h) (h2 : datI xs h) : datI (x :: xs) h := fun y hy => by
  rcases List.mem_cons.1 hy with rfl | hy
  · exact h1
  · exact h2 y hy
def wrongL (p : List UInt8) (n : Nat) : Nat := if (splitN p).2 ≠ 0 then (splitN p).2 else if (splitN p).1.length = 0 then 10 else if 1000 < n then 5 else 0
def firstL : List (List UInt8 × Nat) → Nat
  | [] => 0
  | p :: r => if wrongL p.1 p.2 ≠ 0 then wrongL p.1 p.2 else firstL r
def buildL (ps : List (List UInt8 × Nat)) : Nat := if 20 < ps.length then 4 else if firstL ps ≠ 0 then firstL ps else if fits [] (ps.map fun p => (splitN p.1).1) then 0 else 7
def lenI (xs : List F3) : List (List UInt8 × Nat) := xs.map fun x => (x.1, x.2.2.length)
theorem firstW_L : ∀ xs : List F3, firstW xs = firstL (lenI xs)
  | [] => rfl
  | x :: r => by
    rw [firstW, firstW_L r]
    rfl
theorem buildE_L (xs : List F3) : buildE xs = buildL (lenI xs) := by
  unfold buildE buildL
  rw [firstW_L]
  have h1 : (lenI xs).length = xs.length := List.length_map _
  have h2 : (lenI xs).map (fun p => (splitN p.1).1) = xs.map pathOf := by unfold lenI; rw [List.map_map]; rfl
  rw [h1, h2]
def zItem (j : Nat) : F3 := ([47, 122] ++ [byte (97 + ((j + 2 : Nat) : Int))], .slice none 0 0, [])
def zItems (c : Nat) : List F3 := (List.range c).map zItem
theorem zItems_succ (c : Nat) : zItems (c + 1) = zItems c ++ [zItem c] := by unfold zItems; rw [List.range_succ, List.map_append]; rfl
theorem zItems_length (c : Nat) : (zItems c).length = c := by unfold zItems; rw [List.length_map, List.length_range]
def base2 (v : Value) : List F3 := [([47, 97, 47, 98], v, [120]), ([47, 99], .slice none 0 0, [])]
theorem lenI_base (v : Value) (c : Nat) : lenI (base2 v ++ zItems c) = [([47, 97, 47, 98], 1), ([47, 99], 0)] ++ (List.range c).map fun j => ([47, 122] ++ [byte (97 + ((j + 2 : Nat) : Int))], 0) := by
  unfold lenI zItems
  rw [List.map_append, List.map_map]
  rfl
theorem many_ok : ∀ m : Fin 2, buildL ([([47, 97, 47, 98], 1), ([47, 99], 0)] ++ (List.range (17 + m.val)).map fun j => ([47, 122] ++ [byte (97 + ((j + 2 : Nat) : Int))], 0)) = 0 := by decide +kernel
theorem case0 (v : Value) {m : Nat} (h : m < 2) : buildE (base2 v ++ zItems (17 + m)) = 0 := by rw [buildE_L, lenI_base]; exact many_ok ⟨m, h⟩
theorem case0b (v : Value) {m : Nat} (h : 1 < m) : buildE (base2 v ++ zItems (17 + m)) = 4 := by
  unfold buildE
  rw [if_pos]
  rw [List.length_append, zItems_length]
  show 20 < 2 + (17 + m)
  omega
theorem split1 : splitN [47, 97, 47, 98] = ([[97], [98]], 0) := by decide +kernel
theorem split2 : splitN [47, 99] = ([[99]], 0) := by decide +kernel
theorem case1 (v : Value) (w : Value) (d : List UInt8) : buildE [([47, 97, 47, 98], v, [120]), ([47, 99], w, d)] = if 1000 < d.length then 5 else 0 := by
  unfold buildE firstW firstW firstW wrongI pathOf
  rw [split1, split2]
  dsimp only
  by_cases h : 1000 < d.length
  · simp [h]
  · have : fits [] [[[97], [98]], [[99]]] = true := by decide +kernel
    simp [h, this, split1, split2]
theorem case2 (v : Value) : buildE (base2 v ++ [([47, 99, 47, 100], .slice none 0 0, [])]) = 7 := by rw [buildE_L]; show buildL [([47, 97, 47, 98], 1), ([47, 99], 0), ([47, 99, 47, 100], 0)] = 7; decide +kernel
theorem case3 (v : Value) : buildE (base2 v ++ [([47, 97], .slice none 0 0, [])]) = 7 := by rw [buildE_L]; show buildL [([47, 97, 47, 98], 1), ([47, 99], 0), ([47, 97], 0)] = 7; decide +kernel
theorem case4 (v w : Value) : buildE (base2 v ++ [([47, 99], w, [121])]) = 7 := by rw [buildE_L]; show buildL [([47, 97, 47, 98], 1), ([47, 99], 0), ([47, 99], 1)] = 7; decide +kernel
theorem case5 (v : Value) : buildE (base2 v ++ [([47], .slice none 0 0, [])]) = 10 := by rw [buildE_L]; show buildL [([47, 97, 47, 98], 1), ([47, 99], 0), ([47], 0)] = 10; decide +kernel
theorem case6 (v : Value) : buildE [([47, 97, 47, 47, 98], v, [120]), ([47, 99], .slice none 0 0, [])] = 10 := by rw [buildE_L]; show buildL [([47, 97, 47, 47, 98], 1), ([47, 99], 0)] = 10; decide +kernel
end Go.Proofs.YthkdkmaacjpneaaGreatDoor
/- Trees: TreeRefuses. -/
namespace Go.Proofs.YthkdkmaacjpneaaGreatDoor
open Go.RowKit
set_option linter.unusedVariables false
set_option linter.unusedSimpArgs false
set_option maxRecDepth 8000
theorem within_spec (a n : Int) (hn : 0 < n) (hn2 : n < 9223372036854775808) (F : HP) : CallsS Tryz.prog 15 #[.int .i64 a, .int .i64 n] F [] (fun v Ps => v = .int .i64 (a % n) ∧ Ps = []) := by
  have htb := tmod_bounds a hn
  refine callsS_enter Tryz.func15 rfl Tryz.ntmps15 (by simp) (fun E => ?_)
  refine W_seq ?_
  refine W.pre (K' := [(0, _), (1, _)]) (L' := [(0, _)]) ?_ ⟨rfl, ⟨rfl, trivial⟩⟩ ⟨rfl, trivial⟩
  refine W_regL (WL_pure rfl rfl (by decide) (Pu_assign rfl rfl) (WL_nil (X_then ?_)))
  refine W_seq ?_
  refine W.pre (K' := [(0, _), (1, _), (4, _)]) (L' := [(0, _)]) ?_ ⟨rfl, ⟨rfl, ⟨rfl, trivial⟩⟩⟩ ⟨rfl, trivial⟩
  refine W_regL (WL_pure rfl rfl (by decide) (Pu_move rfl rfl) (WL_pure rfl rfl (by decide) (Pu_move rfl rfl) (WL_pure rfl rfl (by decide) (Pu_bin rfl rfl rfl (run_tmod _ _ _ _ _ (by omega))) (WL_pure rfl rfl (by decide) (Pu_assign rfl rfl) (WL_nil (X_then ?_))))))
  refine W_seq ?_
  refine W_seq ?_
  refine W.pre (K' := [(0, _), (1, _), (4, _), (5, _)]) (L' := [(0, _)]) ?_ ⟨rfl, ⟨rfl, ⟨rfl, ⟨rfl, trivial⟩⟩⟩⟩ ⟨rfl, trivial⟩
  refine W_regL (WL_pure rfl rfl (by decide) (Pu_move rfl rfl) (WL_pure rfl rfl (by decide) (Pu_bin rfl rfl rfl (run_lss _ _ _ _ _ _)) (WL_nil (X_then ?_))))
  refine W_cond rfl (fun hc10 => ?_) (fun hc10 => ?_)
  ·
    have hlt := of_decide_eq_true hc10
    refine W.pre (K' := [(0, _), (1, _), (4, _), (5, _), (10, _)]) (L' := [(0, _)]) ?_ ⟨rfl, ⟨rfl, ⟨rfl, ⟨rfl, ⟨rfl, trivial⟩⟩⟩⟩⟩ ⟨rfl, trivial⟩
    refine W_regL (WL_pure rfl rfl (by decide) (Pu_move rfl rfl) (WL_pure rfl rfl (by decide) (Pu_move rfl rfl) (WL_pure rfl rfl (by decide) (Pu_bin rfl rfl rfl (run_add _ _ _ _ _ (by omega))) (WL_pure rfl rfl (by decide) (Pu_assign rfl rfl) (WL_nil (X_then ?_))))))
    refine W_seq ?_
    refine W.pre (K' := [(0, _), (1, _), (4, _), (5, _), (10, _)]) (L' := [(0, _)]) ?_ ⟨rfl, ⟨rfl, ⟨rfl, ⟨rfl, ⟨rfl, trivial⟩⟩⟩⟩⟩ ⟨rfl, trivial⟩
    refine W_regL (WL_pure rfl rfl (by decide) (Pu_move rfl rfl) (WL_pure rfl rfl (by decide) (Pu_assign rfl rfl) (WL_nil (X_then ?_))))
    refine W_ret ?_
    exact X_ret [] (Ps := []) (res1 Tryz.results15 rfl) rfl (by decide) ⟨int_val (emod_neg hn (of_decide_eq_true hc10)), rfl⟩
  ·
    refine W_skip (X_then ?_)
    refine W_seq ?_
    refine W.pre (K' := [(0, _), (1, _), (4, _), (5, _), (10, _)]) (L' := [(0, _)]) ?_ ⟨rfl, ⟨rfl, ⟨rfl, ⟨rfl, ⟨rfl, trivial⟩⟩⟩⟩⟩ ⟨rfl, trivial⟩
    refine W_regL (WL_pure rfl rfl (by decide) (Pu_move rfl rfl) (WL_pure rfl rfl (by decide) (Pu_assign rfl rfl) (WL_nil (X_then ?_))))
    refine W_ret ?_
    exact X_ret [] (Ps := []) (res1 Tryz.results15 rfl) rfl (by decide) ⟨int_val (emod_pos hn (of_decide_eq_false hc10)), rfl⟩
theorem dat_z {c : Nat} {h : Hlt} : datI (zItems c) h := fun x hx => by
  unfold zItems at hx
  obtain ⟨j, _, rfl⟩ := List.mem_map.1 hx
  exact rd_nil0
theorem short_z (v : Value) (c : Nat) : ∀ x ∈ base2 v ++ zItems c, x.1.length ≤ 900000 ∧ x.2.2.length ≤ 100000000000 := by
  intro x hx
  rcases List.mem_append.1 hx with hx | hx
  · simp [base2] at hx
    rcases hx with rfl | rfl <;> simp
  · unfold zItems at hx
    obtain ⟨j, _, rfl⟩ := List.mem_map.1 hx
    simp [zItem]
theorem row_b {e : TypeId} {v v0 : Value} {z : F3} {h : Hlt} (hp : rowP e 2 v ((base2 v0).length + 1) (recC itC (base2 v0) ++ [itC z].flatten) h) : rowR itC 2 e v (base2 v0 ++ [z]) h := by
  unfold rowR
  rw [List.length_append, recC_append, recC_one]
  simpa using hp
theorem row_z {e : TypeId} {v v0 : Value} {c : Nat} {h : Hlt} (hp : rowP e 2 v ((base2 v0 ++ zItems c).length + 1) (recC itC (base2 v0 ++ zItems c) ++ [itC (zItem c)].flatten) h) : rowR itC 2 e v (base2 v0 ++ zItems (c + 1)) h := by
  unfold rowR
  rw [zItems_succ, ← List.append_assoc, List.length_append, recC_append (a := base2 v0 ++ zItems c), recC_one]
  simpa using hp
theorem refuses_spec (w n : Int) (F : HP) (hT : ∀ h, F h → tabsP h) : CallsS Tryz.prog 5 #[.int .i64 w, .int .i64 n] F [] (fun r Ps => r = .bool true ∧ Ps = []) := by
  refine callsS_enter Tryz.func5 rfl Tryz.ntmps5 (by simp) (fun E => ?_)
  refine W_seq ?_
  refine W.pre (K' := [(0, _), (1, _)]) (L' := [(0, _)]) ?_ ⟨rfl, ⟨rfl, trivial⟩⟩ ⟨rfl, trivial⟩
  refine W_regL (WL_pure rfl rfl (by decide) (Pu_assign rfl rfl) (WL_nil (X_then ?_)))
  refine W_seq ?_
  refine W_seq ?_
  refine W.pre (K' := [(0, _), (1, _), (4, _)]) (L' := [(0, _)]) ?_ ⟨rfl, ⟨rfl, ⟨rfl, trivial⟩⟩⟩ ⟨rfl, trivial⟩
  refine W_regL (WL_cons rfl rfl (by decide) (OpT_call 200 [0] [] rfl Tryz.call13 rfl rfl rfl (by decide) (by decide) (known10_spec _ (tabs_star 0 rfl hT)) (fun v10 Ps10 hR10 => ?_)))
  obtain ⟨rfl, rfl⟩ := hR10
  refine (WL_pure rfl rfl (by decide) (Pu_un rfl rfl (run_not _)) (WL_nil (X_then ?_)))
  refine W_false rfl (rfl) ?_
  refine W_skip (X_then ?_)
  refine W_seq ?_
  refine W.pre (K' := [(0, _), (1, _), (4, _), (11, _)]) (L' := [(0, _)]) ?_ ⟨rfl, ⟨rfl, ⟨rfl, ⟨rfl, trivial⟩⟩⟩⟩ ⟨rfl, trivial⟩
  refine W_regL (WL_pure rfl rfl (by decide) (Pu_move rfl rfl) (WL_cons rfl rfl (by decide) (OpT_call 300 [0] [] rfl Tryz.call15 rfl rfl rfl (by decide) (by decide) (within_spec n 4 (by omega) (by omega) _) (fun v13 Ps13 hR13 => ?_))))
  obtain ⟨rfl, rfl⟩ := hR13
  obtain ⟨m, hm, hm4⟩ : ∃ m : Nat, n % 4 = (m : Int) ∧ m < 4 := ⟨(n % 4).toNat, by omega, by omega⟩
  rw [hm]
  refine (WL_pure rfl rfl (by decide) (Pu_assign rfl rfl) (WL_nil (X_then ?_)))
  refine W_seq ?_
  refine W.pre (K' := [(0, _), (1, _), (4, _), (11, _)]) (L' := [(0, _)]) ?_ ⟨rfl, ⟨rfl, ⟨rfl, ⟨rfl, trivial⟩⟩⟩⟩ ⟨rfl, trivial⟩
  refine W_regL (WL_cons rfl rfl (by decide) (OpT_buildFull (r := 50) (bs [120]) rfl rfl Tryz.runUnderlying36 Tryz.sizeOf5 Tryz.zeroValue5 rfl rfl (by decide) rfl (bs_cells _) (fun v14 => ?_)))
  refine (WL_cons rfl rfl (by decide) (OpT_convFrz (r := 50) rfl Tryz.underlying36 Tryz.underlying5 rfl rfl ?_))
  refine WL_fact (r := 50) rfl (fun h hp => rd_one (frz_rd hp)) (fun ho14 => ?_)
  refine (WL_pure rfl rfl (by decide) (Pu_build (V := .agg (itC ([47, 97, 47, 98], v14, [120])).toArray) [(0, 1), (1, 1)] ([sV [], .slice none 0 0]) rfl rfl (by kernel_rfl) (by kernel_rfl) (.one rfl rfl (by decide) rfl (.one rfl ho14 (by decide) rfl (.nil _))) rfl) (WL_pure rfl rfl (by decide) (Pu_build (V := .agg (itC ([47, 99], .slice none 0 0, [])).toArray) [(0, 1), (1, 1)] ([sV [], .slice none 0 0]) rfl rfl (by kernel_rfl) (by kernel_rfl) (.one rfl rfl (by decide) rfl (.nil _)) rfl) (WL_cons rfl rfl (by decide) (OpT_buildRows (r := 301) [itC ([47, 97, 47, 98], v14, [120]), itC ([47, 99], .slice none 0 0, [])] rfl rfl Tryz.runUnderlying24 Tryz.sizeOf38 Tryz.zeroValue38 rfl (by decide) rfl (by decide) (by intro r hr; simp at hr; rcases hr with rfl | rfl <;> rfl) rfl (fun v18 => ?_)))))
  refine WL_turn (P' := rowR itC 2 38 v18 (base2 v14)) (r := 301) rfl (fun h hp => hp) ?_
  refine (WL_pure rfl rfl (by decide) (Pu_assign rfl rfl) (WL_nil (X_then ?_)))
  refine W_seq ?_
  refine W.pre (K' := [(0, _), (1, _), (4, _), (5, _), (11, _)]) (L' := [(0, _), (50, _), (301, _)]) ?_ ⟨rfl, ⟨rfl, ⟨rfl, ⟨rfl, ⟨rfl, trivial⟩⟩⟩⟩⟩ ⟨rfl, ⟨rfl, ⟨rfl, trivial⟩⟩⟩
  refine W_regL (WL_pure rfl rfl (by decide) (Pu_assign rfl rfl) (WL_nil (X_then ?_)))
  refine W_seq ?_
  refine W_seq ?_
  refine W.pre (K' := [(0, _), (1, _), (4, _), (5, _), (6, _), (11, _)]) (L' := [(0, _), (50, _), (301, _)]) ?_ ⟨rfl, ⟨rfl, ⟨rfl, ⟨rfl, ⟨rfl, ⟨rfl, trivial⟩⟩⟩⟩⟩⟩ ⟨rfl, ⟨rfl, ⟨rfl, trivial⟩⟩⟩
  refine W_regL (WL_pure rfl rfl (by decide) (Pu_move rfl rfl) (WL_cons rfl rfl (by decide) (OpT_call 400 [0, 50, 301] [] rfl Tryz.call15 rfl rfl rfl (by decide) (by decide) (within_spec w 7 (by omega) (by omega) _) (fun v20 Ps20 hR20 => ?_))))
  obtain ⟨rfl, rfl⟩ := hR20
  obtain ⟨k, hk, hk7⟩ : ∃ k : Nat, w % 7 = (k : Int) ∧ k < 7 := ⟨(w % 7).toNat, by omega, by omega⟩
  rw [hk]
  refine (WL_nil (X_then ?_))
  refine W_block ?_
  refine W_seq ?_
  refine W.pre (K' := [(0, _), (1, _), (4, _), (5, _), (6, _), (11, _), (20, _)]) (L' := [(0, _), (50, _), (301, _)]) ?_ ⟨rfl, ⟨rfl, ⟨rfl, ⟨rfl, ⟨rfl, ⟨rfl, ⟨rfl, trivial⟩⟩⟩⟩⟩⟩⟩ ⟨rfl, ⟨rfl, ⟨rfl, trivial⟩⟩⟩
  refine W_regL (WL_pure rfl rfl (by decide) (Pu_bin rfl rfl rfl (run_eql _ _ _ _ _ _)) (WL_pure rfl rfl (by decide) (Pu_assign rfl rfl) (WL_nil (X_then ?_))))
  refine W_cond rfl (fun hc21 => ?_) (fun hc21 => ?_)
  ·
    have hk0 : k = 0 := by have := of_decide_eq_true hc21; omega
    refine W_seq ?_
    refine W_seq ?_
    refine W.pre (K' := [(0, _), (1, _), (4, _), (5, _), (6, _), (11, _), (20, _), (21, _)]) (L' := [(0, _), (50, _), (301, _)]) ?_ ⟨rfl, ⟨rfl, ⟨rfl, ⟨rfl, ⟨rfl, ⟨rfl, ⟨rfl, ⟨rfl, trivial⟩⟩⟩⟩⟩⟩⟩⟩ ⟨rfl, ⟨rfl, ⟨rfl, trivial⟩⟩⟩
    refine W_regL (WL_pure rfl rfl (by decide) (Pu_move rfl rfl) (WL_pure rfl rfl (by decide) (Pu_len (r := 301) rfl Tryz.runUnderlying24 rfl rfl rowR_rd) ?_))
    rw [show (((base2 v14).length : Nat) : Int) = ((0 + 2 : Nat) : Int) from rfl]
    refine (WL_pure rfl rfl (by decide) (Pu_assign rfl rfl) (WL_nil (X_then ?_)))
    refine W_block ?_
    refine W_turn (P' := rowR itC 2 38 v18 (base2 v14 ++ zItems 0)) 301 rfl (fun h hp => by rw [show zItems 0 = [] from rfl, List.append_nil]; exact hp) ?_
    refine W_loop (α := Nat × Value) (fun x => [(1, .int .i64 (m : Int)), (5, x.2), (6, .int .i64 0), (7, .int .i64 ((x.1 + 2 : Nat) : Int))]) (fun x => [(0, F), (50, frzP 5 v14 (bs [120])), (301, rowR itC 2 38 x.2 (base2 v14 ++ zItems x.1))]) (fun x => x.1 ≤ 17 + m) (fun x => 17 + m - x.1) ((0, v18)) (Nat.zero_le _) ⟨rfl, ⟨rfl, ⟨rfl, ⟨rfl, trivial⟩⟩⟩⟩ ⟨rfl, ⟨rfl, ⟨rfl, trivial⟩⟩⟩ (fun x hx => ?_)
    have hzl : (base2 v14 ++ zItems x.1).length = 2 + x.1 := by rw [List.length_append, zItems_length]; rfl
    refine W_seq ?_
    refine W_seq ?_
    refine W.pre (K' := [(1, _), (5, _), (6, _), (7, _)]) (L' := [(0, _), (50, _), (301, _)]) ?_ ⟨rfl, ⟨rfl, ⟨rfl, ⟨rfl, trivial⟩⟩⟩⟩ ⟨rfl, ⟨rfl, ⟨rfl, trivial⟩⟩⟩
    refine W_regL (WL_pure rfl rfl (by decide) (Pu_move rfl rfl) (WL_pure rfl rfl (by decide) (Pu_move rfl rfl) (WL_pure rfl rfl (by decide) (Pu_bin rfl rfl rfl (run_add _ _ _ _ _ (by omega))) (WL_pure rfl rfl (by decide) (Pu_bin rfl rfl rfl (run_lss _ _ _ _ _ _)) (WL_nil (X_then ?_))))))
    refine W_cond rfl (fun hc28 => ?_) (fun hc28 => ?_)
    ·
      have hlt : x.1 < 17 + m := by have := of_decide_eq_true hc28; omega
      refine W_skip (X_then ?_)
      refine W_seq ?_
      refine W_block ?_
      refine W.pre (K' := [(1, _), (5, _), (6, _), (7, _), (28, _)]) (L' := [(0, _), (50, _), (301, _)]) ?_ ⟨rfl, ⟨rfl, ⟨rfl, ⟨rfl, ⟨rfl, trivial⟩⟩⟩⟩⟩ ⟨rfl, ⟨rfl, ⟨rfl, trivial⟩⟩⟩
      refine W_regL (WL_pure rfl rfl (by decide) (Pu_move rfl rfl) (WL_pure rfl rfl (by decide) (Pu_move rfl rfl) (WL_pure rfl rfl (by decide) (Pu_bin rfl rfl rfl (run_add _ _ _ _ _ (by omega))) (WL_pure rfl rfl (by decide) (Pu_conv rfl rfl (conv_byte _ _ Tryz.runUnderlying3 Tryz.runUnderlying5)) (WL_cons rfl rfl (by decide) (OpT_buildOnes (r := 401) (bs [byte (97 + ((x.1 + 2 : Nat) : Int))]) rfl rfl Tryz.runUnderlying36 Tryz.sizeOf5 Tryz.zeroValue5 rfl rfl (by decide) rfl (bs_cells _) (fun v35 => ?_)))))))
      refine WL_turn (P' := rowB 5 v35 [byte (97 + ((x.1 + 2 : Nat) : Int))]) (r := 401) rfl (fun h hp => hp) ?_
      refine (WL_pure rfl rfl (by decide) (Pu_convBS (r := 401) rfl Tryz.underlying36 Tryz.underlying5 Tryz.underlying9 rfl rfl rowB_rd) (WL_pure rfl rfl (by decide) (Pu_bin rfl rfl rfl (run_addL [47, 122] [byte (97 + ((x.1 + 2 : Nat) : Int))] _ _ _ (by show (3 : Nat) ≤ _; decide))) (WL_pure rfl rfl (by decide) (Pu_build (V := .agg (itC ([47, 122] ++ [byte (97 + ((x.1 + 2 : Nat) : Int))], .slice none 0 0, [])).toArray) [(0, 1), (1, 1)] ([sV [], .slice none 0 0]) rfl rfl (by kernel_rfl) (by kernel_rfl) (.one rfl rfl (by decide) rfl (.nil _)) rfl) (WL_cons rfl rfl (by decide) (OpT_buildRows (r := 402) [itC (zItem x.1)] rfl rfl Tryz.runUnderlying24 Tryz.sizeOf38 Tryz.zeroValue38 rfl (by decide) rfl (by decide) (by intro r hr; simp at hr; rw [hr]; rfl) rfl (fun v39 => (WL_cons rfl rfl (by decide) (OpT_append (r := 301) (r2 := 402) rfl Tryz.underlying24 TI.hi38 TI.hz38 TI.hs38 TI.hby38 TI.hzs38 (by decide) rfl rfl rfl rfl (fun _ h => rowP_rd h) (by intro u hu; simp at hu; exact itC_one rfl u hu) (by unfold maxLen; omega) (by omega) (fun v40 => ?_)))))))))
      refine (WL_pure rfl rfl (by decide) (Pu_assign rfl rfl) (WL_nil (X_block (X_then ?_))))
      refine W.pre (K' := [(1, _), (5, _), (6, _), (7, _), (28, _)]) (L' := [(0, _), (50, _), (301, _), (401, _), (402, _)]) ?_ ⟨rfl, ⟨rfl, ⟨rfl, ⟨rfl, ⟨rfl, trivial⟩⟩⟩⟩⟩ ⟨rfl, ⟨rfl, ⟨rfl, ⟨rfl, ⟨rfl, trivial⟩⟩⟩⟩⟩
      refine W_regL (WL_pure rfl rfl (by decide) (Pu_move rfl rfl) (WL_pure rfl rfl (by decide) (Pu_bin rfl rfl rfl (run_add _ _ _ _ _ (by omega))) ?_))
      rw [show ((x.1 + 2 : Nat) : Int) + 1 = ((x.1 + 1 + 2 : Nat) : Int) by omega]
      refine (WL_pure rfl rfl (by decide) (Pu_assign rfl rfl) (WL_nil ?_))
      refine X_turn (P' := rowR itC 2 38 v40 (base2 v14 ++ zItems (x.1 + 1))) 301 rfl (fun h hp => row_z hp) ?_
      exact X_round (x.1 + 1, v40) (by dsimp only; omega) (by dsimp only; omega) ⟨rfl, rfl, rfl, rfl, trivial⟩ ⟨rfl, rfl, rfl, trivial⟩
    ·
      have hge : x.1 = 17 + m := by have := of_decide_eq_false hc28; omega
      refine W_exit (X_then_exit (X_then_exit (X_block_exit (X_then ?_))))
      refine W_seq ?_
      refine W.pre (K' := [(1, _), (5, _), (6, _), (7, _), (28, _)]) (L' := [(0, _), (50, _), (301, _)]) ?_ ⟨rfl, ⟨rfl, ⟨rfl, ⟨rfl, ⟨rfl, trivial⟩⟩⟩⟩⟩ ⟨rfl, ⟨rfl, ⟨rfl, trivial⟩⟩⟩
      refine W_regL (WL_pure rfl rfl (by decide) (Pu_move rfl rfl) (WL_pure rfl rfl (by decide) (Pu_bin rfl rfl rfl (run_gtr _ _ _ _ _ _)) (WL_nil (X_then ?_))))
      refine W_cond rfl (fun hc42 => ?_) (fun hc42 => ?_)
      ·
        have hm1 : 1 < m := by have := of_decide_eq_true hc42; omega
        refine W.pre (K' := [(1, _), (5, _), (6, _), (7, _), (28, _), (42, _)]) (L' := [(0, _), (50, _), (301, _)]) ?_ ⟨rfl, ⟨rfl, ⟨rfl, ⟨rfl, ⟨rfl, ⟨rfl, trivial⟩⟩⟩⟩⟩⟩ ⟨rfl, ⟨rfl, ⟨rfl, trivial⟩⟩⟩
        refine W_regL (WL_pure rfl rfl (by decide) (Pu_assign rfl rfl) (WL_nil (X_block (X_then ?_))))
        refine W_seq ?_
        refine W.pre (K' := [(1, _), (5, _), (6, _), (7, _), (28, _), (42, _)]) (L' := [(0, _), (50, _), (301, _)]) ?_ ⟨rfl, ⟨rfl, ⟨rfl, ⟨rfl, ⟨rfl, ⟨rfl, trivial⟩⟩⟩⟩⟩⟩ ⟨rfl, ⟨rfl, ⟨rfl, trivial⟩⟩⟩
        obtain ⟨xs, hxs⟩ : ∃ xs : List F3, xs = base2 v14 ++ zItems x.1 := ⟨_, rfl⟩
        have hbe : buildE xs = 4 := by rw [hxs]; exact by rw [hge]; exact case0b v14 hm1
        refine W_turn (P' := rowR itC 2 38 x.2 xs) 301 rfl (fun h hp => by rw [hxs]; exact hp) ?_
        have hxl : xs.length ≤ 22 := by rw [hxs]; rw [hzl]; omega
        have hxb : ∀ x ∈ xs, x.1.length ≤ 900000 ∧ x.2.2.length ≤ 100000000000 := by rw [hxs]; exact short_z _ _
        refine W_regL (WL_pure rfl rfl (by decide) (Pu_move rfl rfl) (WL_cons rfl rfl (by decide) (OpT_call 500 [0, 50, 301] [] rfl Tryz.call16 rfl rfl rfl (by decide) (by decide) (build_spec x.2 xs (by omega) hxb _ (rd_star 2 rfl rowR_rd) (by rw [hxs]; exact fun h hs => dat_cons (rd_star 1 rfl (fun h2 hp => frz_rd hp) h hs) (dat_cons rd_nil0 dat_z)) (tabs_star 0 rfl hT)) (fun v86 Ps86 hR86 => ?_))))
        obtain ⟨vb, id, l, rfl, rfl, hid, hbad, _⟩ := hR86
        refine WL_fact (r := 500) rfl (fun h hp => treeP_one hp) (fun (hvo : vb.oneCell' = true) => ?_)
        rw [hbe]
        obtain ⟨rfl, rfl, rfl⟩ := hbad (by rw [hbe]; decide)
        refine (WL_pure rfl rfl (by decide) (Pu_move rfl rfl) (WL_pure rfl rfl (by decide) (Pu_extract rfl rfl rfl) (WL_pure rfl rfl (by decide) (Pu_extract rfl rfl rfl) (WL_cons rfl rfl (by decide) (OpT_alloc (r := 501) (cs := (treeC (.slice none 0 0) zeroId)) rfl (zero_run (by kernel_rfl : (Tryz.prog.info? 31).bind (·.zero) = some (.agg (treeC (.slice none 0 0) zeroId).toArray))) rfl (fun g501 => (WL_cons0 rfl rfl (OpT_storeAll (r := 501) rfl Tryz.sizeOf31 rfl rfl rfl (treeC_length zeroId_length) (treeC_length hid) (treeC_one hvo) ?_))))))))
        refine (WL_pure rfl rfl (by decide) (Pu_assign rfl rfl) (WL_nil (X_then ?_)))
        refine W_seq ?_
        refine W.pre (K' := [(1, _), (5, _), (6, _), (7, _), (8, _), (9, _), (28, _), (42, _)]) (L' := [(0, _), (50, _), (301, _), (500, _), (501, _)]) ?_ ⟨rfl, ⟨rfl, ⟨rfl, ⟨rfl, ⟨rfl, ⟨rfl, ⟨rfl, ⟨rfl, trivial⟩⟩⟩⟩⟩⟩⟩⟩ ⟨rfl, ⟨rfl, ⟨rfl, ⟨rfl, ⟨rfl, trivial⟩⟩⟩⟩⟩
        refine W_regL (WL_pure rfl rfl (by decide) (Pu_move rfl rfl) (WL_pure rfl rfl (by decide) (Pu_move rfl rfl) (WL_pure rfl rfl (by decide) (Pu_bin rfl rfl rfl (run_eql _ _ _ _ _ _)) (WL_pure rfl rfl (by decide) (Pu_move rfl rfl) (WL_gPT rfl rfl rfl rfl rfl (by decide) (Pu_move rfl rfl) (WL_gPT rfl rfl rfl rfl rfl (by decide) (Pu_bin rfl rfl rfl (run_eql _ _ _ _ _ _)) (WL_gPT rfl rfl rfl rfl rfl (by decide) (Pu_move rfl rfl) (WL_gPT rfl rfl rfl rfl rfl (by decide) (Pu_fieldAddrB (off := 0) rfl rfl (by kernel_rfl)) (WL_gPT rfl rfl rfl rfl rfl (by decide) (Pu_loadB (r := 501) rfl Tryz.isAgg27 rfl rfl rfl) (WL_gPT rfl rfl rfl rfl rfl (by decide) (Pu_len (r := 0) rfl Tryz.runUnderlying27 rfl rfl (fun _ _ => rd_nil0 (size := 1))) (WL_gPT rfl rfl rfl rfl rfl (by decide) (Pu_bin rfl rfl rfl (run_eql _ _ _ _ _ _)) (WL_gPT rfl rfl rfl rfl rfl (by decide) (Pu_move rfl rfl) (WL_gPT rfl rfl rfl rfl rfl (by decide) (Pu_fieldAddrB (off := 1) rfl rfl (by kernel_rfl)) (WL_gPT rfl rfl rfl rfl rfl (by decide) (Pu_loadBN (r := 501) rfl Tryz.isAgg29 Tryz.sizeOf29 rfl rfl rfl (tree_id zeroId_length)) (WL_gPT rfl rfl rfl rfl rfl (by decide) (Pu_built (cells := bs zeroId) rfl rfl (by kernel_rfl)) (WL_gPT rfl rfl rfl rfl rfl (by decide) (Pu_bin rfl rfl rfl (run_idEq zeroId zeroId zeroId_length zeroId_length _ _)) (WL_gPT rfl rfl rfl rfl rfl (by decide) (Pu_pickT rfl rfl rfl rfl) (WL_gPT rfl rfl rfl rfl rfl (by decide) (Pu_pickF rfl rfl rfl rfl) (WL_pure rfl rfl (by decide) (Pu_pickT rfl rfl rfl rfl) (WL_pure rfl rfl (by decide) (Pu_assign rfl rfl) (WL_nil (X_then ?_))))))))))))))))))))))
        refine W_ret ?_
        exact X_ret [] (Ps := []) (res1 Tryz.results5 rfl) rfl (by decide) ⟨rfl, rfl⟩
      ·
        have hm1 : m < 2 := by have := of_decide_eq_false hc42; omega
        refine W_skip (X_block (X_then ?_))
        refine W_seq ?_
        refine W.pre (K' := [(1, _), (5, _), (6, _), (7, _), (28, _), (42, _)]) (L' := [(0, _), (50, _), (301, _)]) ?_ ⟨rfl, ⟨rfl, ⟨rfl, ⟨rfl, ⟨rfl, ⟨rfl, trivial⟩⟩⟩⟩⟩⟩ ⟨rfl, ⟨rfl, ⟨rfl, trivial⟩⟩⟩
        obtain ⟨xs, hxs⟩ : ∃ xs : List F3, xs = base2 v14 ++ zItems x.1 := ⟨_, rfl⟩
        have hbe : buildE xs = 0 := by rw [hxs]; exact by rw [hge]; exact case0 v14 hm1
        refine W_turn (P' := rowR itC 2 38 x.2 xs) 301 rfl (fun h hp => by rw [hxs]; exact hp) ?_
        have hxl : xs.length ≤ 22 := by rw [hxs]; rw [hzl]; omega
        have hxb : ∀ x ∈ xs, x.1.length ≤ 900000 ∧ x.2.2.length ≤ 100000000000 := by rw [hxs]; exact short_z _ _
        refine W_regL (WL_pure rfl rfl (by decide) (Pu_move rfl rfl) (WL_cons rfl rfl (by decide) (OpT_call 500 [0, 50, 301] [] rfl Tryz.call16 rfl rfl rfl (by decide) (by decide) (build_spec x.2 xs (by omega) hxb _ (rd_star 2 rfl rowR_rd) (by rw [hxs]; exact fun h hs => dat_cons (rd_star 1 rfl (fun h2 hp => frz_rd hp) h hs) (dat_cons rd_nil0 dat_z)) (tabs_star 0 rfl hT)) (fun v86 Ps86 hR86 => ?_))))
        obtain ⟨vb, id, l, rfl, rfl, hid, hbad, _⟩ := hR86
        refine WL_fact (r := 500) rfl (fun h hp => treeP_one hp) (fun (hvo : vb.oneCell' = true) => ?_)
        rw [hbe]
        skip
        refine (WL_pure rfl rfl (by decide) (Pu_move rfl rfl) (WL_pure rfl rfl (by decide) (Pu_extract rfl rfl rfl) (WL_pure rfl rfl (by decide) (Pu_extract rfl rfl rfl) (WL_cons rfl rfl (by decide) (OpT_alloc (r := 501) (cs := (treeC (.slice none 0 0) zeroId)) rfl (zero_run (by kernel_rfl : (Tryz.prog.info? 31).bind (·.zero) = some (.agg (treeC (.slice none 0 0) zeroId).toArray))) rfl (fun g501 => (WL_cons0 rfl rfl (OpT_storeAll (r := 501) rfl Tryz.sizeOf31 rfl rfl rfl (treeC_length zeroId_length) (treeC_length hid) (treeC_one hvo) ?_))))))))
        refine (WL_pure rfl rfl (by decide) (Pu_assign rfl rfl) (WL_nil (X_then ?_)))
        refine W_seq ?_
        refine W.pre (K' := [(1, _), (5, _), (6, _), (7, _), (8, _), (9, _), (28, _), (42, _)]) (L' := [(0, _), (50, _), (301, _), (500, _), (501, _)]) ?_ ⟨rfl, ⟨rfl, ⟨rfl, ⟨rfl, ⟨rfl, ⟨rfl, ⟨rfl, ⟨rfl, trivial⟩⟩⟩⟩⟩⟩⟩⟩ ⟨rfl, ⟨rfl, ⟨rfl, ⟨rfl, ⟨rfl, trivial⟩⟩⟩⟩⟩
        refine W_regL (WL_pure rfl rfl (by decide) (Pu_move rfl rfl) (WL_pure rfl rfl (by decide) (Pu_move rfl rfl) (WL_pure rfl rfl (by decide) (Pu_bin rfl rfl rfl (run_eql _ _ _ _ _ _)) (WL_pure rfl rfl (by decide) (Pu_move rfl rfl) (WL_gPT rfl rfl rfl rfl rfl (by decide) (Pu_move rfl rfl) (WL_gPT rfl rfl rfl rfl rfl (by decide) (Pu_bin rfl rfl rfl (run_eql _ _ _ _ _ _)) (WL_gPT rfl rfl rfl rfl rfl (by decide) (Pu_move rfl rfl) (WL_gF rfl rfl rfl rfl rfl (by decide) (WL_gF rfl rfl rfl rfl rfl (by decide) (WL_gF rfl rfl rfl rfl rfl (by decide) (WL_gF rfl rfl rfl rfl rfl (by decide) (WL_gF rfl rfl rfl rfl rfl (by decide) (WL_gF rfl rfl rfl rfl rfl (by decide) (WL_gF rfl rfl rfl rfl rfl (by decide) (WL_gF rfl rfl rfl rfl rfl (by decide) (WL_gF rfl rfl rfl rfl rfl (by decide) (WL_gF rfl rfl rfl rfl rfl (by decide) (WL_gPT rfl rfl rfl rfl rfl (by decide) (Pu_pickT rfl rfl rfl rfl) (WL_pure rfl rfl (by decide) (Pu_pickT rfl rfl rfl rfl) (WL_pure rfl rfl (by decide) (Pu_assign rfl rfl) (WL_nil (X_then ?_))))))))))))))))))))))
        refine W_ret ?_
        exact X_ret [] (Ps := []) (res1 Tryz.results5 rfl) rfl (by decide) ⟨rfl, rfl⟩
  ·
    have hk0 : ¬ k = 0 := by have := of_decide_eq_false hc21; omega
    refine W_seq ?_
    refine W.pre (K' := [(0, _), (1, _), (4, _), (5, _), (6, _), (11, _), (20, _), (21, _)]) (L' := [(0, _), (50, _), (301, _)]) ?_ ⟨rfl, ⟨rfl, ⟨rfl, ⟨rfl, ⟨rfl, ⟨rfl, ⟨rfl, ⟨rfl, trivial⟩⟩⟩⟩⟩⟩⟩⟩ ⟨rfl, ⟨rfl, ⟨rfl, trivial⟩⟩⟩
    refine W_regL (WL_pure rfl rfl (by decide) (Pu_bin rfl rfl rfl (run_eql _ _ _ _ _ _)) (WL_pure rfl rfl (by decide) (Pu_assign rfl rfl) (WL_nil (X_then ?_))))
    refine W_cond rfl (fun hc43 => ?_) (fun hc43 => ?_)
    ·
      have hk1 : k = 1 := by have := of_decide_eq_true hc43; omega
      refine W_seq ?_
      refine W.pre (K' := [(0, _), (1, _), (4, _), (5, _), (6, _), (11, _), (20, _), (21, _), (43, _)]) (L' := [(0, _), (50, _), (301, _)]) ?_ ⟨rfl, ⟨rfl, ⟨rfl, ⟨rfl, ⟨rfl, ⟨rfl, ⟨rfl, ⟨rfl, ⟨rfl, trivial⟩⟩⟩⟩⟩⟩⟩⟩⟩ ⟨rfl, ⟨rfl, ⟨rfl, trivial⟩⟩⟩
      refine W_regL (WL_pure rfl rfl (by decide) (Pu_move rfl rfl) (WL_pure rfl rfl (by decide) (Pu_move rfl rfl) (WL_pure rfl rfl (by decide) (Pu_bin rfl rfl rfl (run_add _ _ _ _ _ (by omega))) ?_)))
      rw [show (999 : Int) + (m : Int) = ((999 + m : Nat) : Int) by omega]
      refine (WL_cons rfl rfl (by decide) (OpT_make (r := 401) (m := 999 + m) rfl Tryz.underlying36 TI.hi5 TI.hz5 TI.hs5 rfl rfl (by rw [TI.hby5]; omega) (by unfold maxLen; omega) ((made_one _ _).trans (made_bytes (999 + m))) (fun v48 => ?_)))
      refine WL_turn (P' := rowB 5 v48 (List.replicate (999 + m) 0)) (r := 401) rfl (fun h hp => rowB_mk hp (by rw [List.length_replicate]) rfl) ?_
      refine WL_fact (r := 401) rfl (fun h hp => rd_one (rowP_rd hp)) (fun ho48 => ?_)
      refine (WL_pure rfl rfl (by decide) (Pu_idxS (r := 301) rfl Tryz.runUnderlying24 Tryz.sizeOf38 rfl rfl rfl rowR_rd (by show (0 : Int) ≤ 1 ∧ (1 : Int) < ((2 : Nat) : Int); decide)) (WL_pure rfl rfl (by decide) (Pu_fieldAddrE (off := 1) rfl rfl (by kernel_rfl)) (WL_cons0 rfl rfl (OpT_storeS1 (r := 301) rfl Tryz.sizeOf36 rfl rfl rfl ho48 (by show 3 < 4; decide) (show _ = recC itC [([47, 97, 47, 98], v14, [120]), ([47, 99], v48, List.replicate (999 + m) 0)] from rfl) ?_))))
      refine (WL_nil (X_then ?_))
      refine W_seq ?_
      refine W.pre (K' := [(0, _), (1, _), (4, _), (5, _), (6, _), (11, _), (20, _), (21, _), (43, _)]) (L' := [(0, _), (50, _), (301, _), (401, _)]) ?_ ⟨rfl, ⟨rfl, ⟨rfl, ⟨rfl, ⟨rfl, ⟨rfl, ⟨rfl, ⟨rfl, ⟨rfl, trivial⟩⟩⟩⟩⟩⟩⟩⟩⟩ ⟨rfl, ⟨rfl, ⟨rfl, ⟨rfl, trivial⟩⟩⟩⟩
      refine W_regL (WL_pure rfl rfl (by decide) (Pu_move rfl rfl) (WL_pure rfl rfl (by decide) (Pu_bin rfl rfl rfl (run_gtr _ _ _ _ _ _)) (WL_nil (X_then ?_))))
      refine W_cond rfl (fun hc52 => ?_) (fun hc52 => ?_)
      ·
        have hm1 : 1 < m := by have := of_decide_eq_true hc52; omega
        refine W.pre (K' := [(0, _), (1, _), (4, _), (5, _), (6, _), (11, _), (20, _), (21, _), (43, _), (52, _)]) (L' := [(0, _), (50, _), (301, _), (401, _)]) ?_ ⟨rfl, ⟨rfl, ⟨rfl, ⟨rfl, ⟨rfl, ⟨rfl, ⟨rfl, ⟨rfl, ⟨rfl, ⟨rfl, trivial⟩⟩⟩⟩⟩⟩⟩⟩⟩⟩ ⟨rfl, ⟨rfl, ⟨rfl, ⟨rfl, trivial⟩⟩⟩⟩
        refine W_regL (WL_pure rfl rfl (by decide) (Pu_assign rfl rfl) (WL_nil (X_block (X_then ?_))))
        refine W_seq ?_
        refine W.pre (K' := [(0, _), (1, _), (4, _), (5, _), (6, _), (11, _), (20, _), (21, _), (43, _), (52, _)]) (L' := [(0, _), (50, _), (301, _), (401, _)]) ?_ ⟨rfl, ⟨rfl, ⟨rfl, ⟨rfl, ⟨rfl, ⟨rfl, ⟨rfl, ⟨rfl, ⟨rfl, ⟨rfl, trivial⟩⟩⟩⟩⟩⟩⟩⟩⟩⟩ ⟨rfl, ⟨rfl, ⟨rfl, ⟨rfl, trivial⟩⟩⟩⟩
        obtain ⟨xs, hxs⟩ : ∃ xs : List F3, xs = [([47, 97, 47, 98], v14, [120]), ([47, 99], v48, List.replicate (999 + m) 0)] := ⟨_, rfl⟩
        have hbe : buildE xs = 5 := by rw [hxs]; exact by rw [case1, List.length_replicate]; rw [if_pos (by omega)]
        refine W_turn (P' := rowR itC 2 38 v18 xs) 301 rfl (fun h hp => by rw [hxs]; exact hp) ?_
        have hxl : xs.length ≤ 22 := by rw [hxs]; simp [base2]
        have hxb : ∀ x ∈ xs, x.1.length ≤ 900000 ∧ x.2.2.length ≤ 100000000000 := by rw [hxs]; exact (by intro y hy; simp [base2] at hy; rcases hy with rfl | rfl <;> simp <;> omega)
        refine W_regL (WL_pure rfl rfl (by decide) (Pu_move rfl rfl) (WL_cons rfl rfl (by decide) (OpT_call 500 [0, 50, 301, 401] [] rfl Tryz.call16 rfl rfl rfl (by decide) (by decide) (build_spec v18 xs (by omega) hxb _ (rd_star 2 rfl rowR_rd) (by rw [hxs]; exact fun h hs => dat_cons (rd_star 1 rfl (fun h2 hp => frz_rd hp) h hs) (dat_cons (rd_star 3 rfl (fun h2 hp => rowB_rd h2 hp) h hs) dat_nil)) (tabs_star 0 rfl hT)) (fun v86 Ps86 hR86 => ?_))))
        obtain ⟨vb, id, l, rfl, rfl, hid, hbad, _⟩ := hR86
        refine WL_fact (r := 500) rfl (fun h hp => treeP_one hp) (fun (hvo : vb.oneCell' = true) => ?_)
        rw [hbe]
        obtain ⟨rfl, rfl, rfl⟩ := hbad (by rw [hbe]; decide)
        refine (WL_pure rfl rfl (by decide) (Pu_move rfl rfl) (WL_pure rfl rfl (by decide) (Pu_extract rfl rfl rfl) (WL_pure rfl rfl (by decide) (Pu_extract rfl rfl rfl) (WL_cons rfl rfl (by decide) (OpT_alloc (r := 501) (cs := (treeC (.slice none 0 0) zeroId)) rfl (zero_run (by kernel_rfl : (Tryz.prog.info? 31).bind (·.zero) = some (.agg (treeC (.slice none 0 0) zeroId).toArray))) rfl (fun g501 => (WL_cons0 rfl rfl (OpT_storeAll (r := 501) rfl Tryz.sizeOf31 rfl rfl rfl (treeC_length zeroId_length) (treeC_length hid) (treeC_one hvo) ?_))))))))
        refine (WL_pure rfl rfl (by decide) (Pu_assign rfl rfl) (WL_nil (X_then ?_)))
        refine W_seq ?_
        refine W.pre (K' := [(0, _), (1, _), (4, _), (5, _), (6, _), (8, _), (9, _), (11, _), (20, _), (21, _), (43, _), (52, _)]) (L' := [(0, _), (50, _), (301, _), (401, _), (500, _), (501, _)]) ?_ ⟨rfl, ⟨rfl, ⟨rfl, ⟨rfl, ⟨rfl, ⟨rfl, ⟨rfl, ⟨rfl, ⟨rfl, ⟨rfl, ⟨rfl, ⟨rfl, trivial⟩⟩⟩⟩⟩⟩⟩⟩⟩⟩⟩⟩ ⟨rfl, ⟨rfl, ⟨rfl, ⟨rfl, ⟨rfl, ⟨rfl, trivial⟩⟩⟩⟩⟩⟩
        refine W_regL (WL_pure rfl rfl (by decide) (Pu_move rfl rfl) (WL_pure rfl rfl (by decide) (Pu_move rfl rfl) (WL_pure rfl rfl (by decide) (Pu_bin rfl rfl rfl (run_eql _ _ _ _ _ _)) (WL_pure rfl rfl (by decide) (Pu_move rfl rfl) (WL_gPT rfl rfl rfl rfl rfl (by decide) (Pu_move rfl rfl) (WL_gPT rfl rfl rfl rfl rfl (by decide) (Pu_bin rfl rfl rfl (run_eql _ _ _ _ _ _)) (WL_gPT rfl rfl rfl rfl rfl (by decide) (Pu_move rfl rfl) (WL_gPT rfl rfl rfl rfl rfl (by decide) (Pu_fieldAddrB (off := 0) rfl rfl (by kernel_rfl)) (WL_gPT rfl rfl rfl rfl rfl (by decide) (Pu_loadB (r := 501) rfl Tryz.isAgg27 rfl rfl rfl) (WL_gPT rfl rfl rfl rfl rfl (by decide) (Pu_len (r := 0) rfl Tryz.runUnderlying27 rfl rfl (fun _ _ => rd_nil0 (size := 1))) (WL_gPT rfl rfl rfl rfl rfl (by decide) (Pu_bin rfl rfl rfl (run_eql _ _ _ _ _ _)) (WL_gPT rfl rfl rfl rfl rfl (by decide) (Pu_move rfl rfl) (WL_gPT rfl rfl rfl rfl rfl (by decide) (Pu_fieldAddrB (off := 1) rfl rfl (by kernel_rfl)) (WL_gPT rfl rfl rfl rfl rfl (by decide) (Pu_loadBN (r := 501) rfl Tryz.isAgg29 Tryz.sizeOf29 rfl rfl rfl (tree_id zeroId_length)) (WL_gPT rfl rfl rfl rfl rfl (by decide) (Pu_built (cells := bs zeroId) rfl rfl (by kernel_rfl)) (WL_gPT rfl rfl rfl rfl rfl (by decide) (Pu_bin rfl rfl rfl (run_idEq zeroId zeroId zeroId_length zeroId_length _ _)) (WL_gPT rfl rfl rfl rfl rfl (by decide) (Pu_pickT rfl rfl rfl rfl) (WL_gPT rfl rfl rfl rfl rfl (by decide) (Pu_pickF rfl rfl rfl rfl) (WL_pure rfl rfl (by decide) (Pu_pickT rfl rfl rfl rfl) (WL_pure rfl rfl (by decide) (Pu_assign rfl rfl) (WL_nil (X_then ?_))))))))))))))))))))))
        refine W_ret ?_
        exact X_ret [] (Ps := []) (res1 Tryz.results5 rfl) rfl (by decide) ⟨rfl, rfl⟩
      ·
        have hm1 : m < 2 := by have := of_decide_eq_false hc52; omega
        refine W_skip (X_block (X_then ?_))
        refine W_seq ?_
        refine W.pre (K' := [(0, _), (1, _), (4, _), (5, _), (6, _), (11, _), (20, _), (21, _), (43, _), (52, _)]) (L' := [(0, _), (50, _), (301, _), (401, _)]) ?_ ⟨rfl, ⟨rfl, ⟨rfl, ⟨rfl, ⟨rfl, ⟨rfl, ⟨rfl, ⟨rfl, ⟨rfl, ⟨rfl, trivial⟩⟩⟩⟩⟩⟩⟩⟩⟩⟩ ⟨rfl, ⟨rfl, ⟨rfl, ⟨rfl, trivial⟩⟩⟩⟩
        obtain ⟨xs, hxs⟩ : ∃ xs : List F3, xs = [([47, 97, 47, 98], v14, [120]), ([47, 99], v48, List.replicate (999 + m) 0)] := ⟨_, rfl⟩
        have hbe : buildE xs = 0 := by rw [hxs]; exact by rw [case1, List.length_replicate]; rw [if_neg (by omega)]
        refine W_turn (P' := rowR itC 2 38 v18 xs) 301 rfl (fun h hp => by rw [hxs]; exact hp) ?_
        have hxl : xs.length ≤ 22 := by rw [hxs]; simp [base2]
        have hxb : ∀ x ∈ xs, x.1.length ≤ 900000 ∧ x.2.2.length ≤ 100000000000 := by rw [hxs]; exact (by intro y hy; simp [base2] at hy; rcases hy with rfl | rfl <;> simp <;> omega)
        refine W_regL (WL_pure rfl rfl (by decide) (Pu_move rfl rfl) (WL_cons rfl rfl (by decide) (OpT_call 500 [0, 50, 301, 401] [] rfl Tryz.call16 rfl rfl rfl (by decide) (by decide) (build_spec v18 xs (by omega) hxb _ (rd_star 2 rfl rowR_rd) (by rw [hxs]; exact fun h hs => dat_cons (rd_star 1 rfl (fun h2 hp => frz_rd hp) h hs) (dat_cons (rd_star 3 rfl (fun h2 hp => rowB_rd h2 hp) h hs) dat_nil)) (tabs_star 0 rfl hT)) (fun v86 Ps86 hR86 => ?_))))
        obtain ⟨vb, id, l, rfl, rfl, hid, hbad, _⟩ := hR86
        refine WL_fact (r := 500) rfl (fun h hp => treeP_one hp) (fun (hvo : vb.oneCell' = true) => ?_)
        rw [hbe]
        skip
        refine (WL_pure rfl rfl (by decide) (Pu_move rfl rfl) (WL_pure rfl rfl (by decide) (Pu_extract rfl rfl rfl) (WL_pure rfl rfl (by decide) (Pu_extract rfl rfl rfl) (WL_cons rfl rfl (by decide) (OpT_alloc (r := 501) (cs := (treeC (.slice none 0 0) zeroId)) rfl (zero_run (by kernel_rfl : (Tryz.prog.info? 31).bind (·.zero) = some (.agg (treeC (.slice none 0 0) zeroId).toArray))) rfl (fun g501 => (WL_cons0 rfl rfl (OpT_storeAll (r := 501) rfl Tryz.sizeOf31 rfl rfl rfl (treeC_length zeroId_length) (treeC_length hid) (treeC_one hvo) ?_))))))))
        refine (WL_pure rfl rfl (by decide) (Pu_assign rfl rfl) (WL_nil (X_then ?_)))
        refine W_seq ?_
        refine W.pre (K' := [(0, _), (1, _), (4, _), (5, _), (6, _), (8, _), (9, _), (11, _), (20, _), (21, _), (43, _), (52, _)]) (L' := [(0, _), (50, _), (301, _), (401, _), (500, _), (501, _)]) ?_ ⟨rfl, ⟨rfl, ⟨rfl, ⟨rfl, ⟨rfl, ⟨rfl, ⟨rfl, ⟨rfl, ⟨rfl, ⟨rfl, ⟨rfl, ⟨rfl, trivial⟩⟩⟩⟩⟩⟩⟩⟩⟩⟩⟩⟩ ⟨rfl, ⟨rfl, ⟨rfl, ⟨rfl, ⟨rfl, ⟨rfl, trivial⟩⟩⟩⟩⟩⟩
        refine W_regL (WL_pure rfl rfl (by decide) (Pu_move rfl rfl) (WL_pure rfl rfl (by decide) (Pu_move rfl rfl) (WL_pure rfl rfl (by decide) (Pu_bin rfl rfl rfl (run_eql _ _ _ _ _ _)) (WL_pure rfl rfl (by decide) (Pu_move rfl rfl) (WL_gPT rfl rfl rfl rfl rfl (by decide) (Pu_move rfl rfl) (WL_gPT rfl rfl rfl rfl rfl (by decide) (Pu_bin rfl rfl rfl (run_eql _ _ _ _ _ _)) (WL_gPT rfl rfl rfl rfl rfl (by decide) (Pu_move rfl rfl) (WL_gF rfl rfl rfl rfl rfl (by decide) (WL_gF rfl rfl rfl rfl rfl (by decide) (WL_gF rfl rfl rfl rfl rfl (by decide) (WL_gF rfl rfl rfl rfl rfl (by decide) (WL_gF rfl rfl rfl rfl rfl (by decide) (WL_gF rfl rfl rfl rfl rfl (by decide) (WL_gF rfl rfl rfl rfl rfl (by decide) (WL_gF rfl rfl rfl rfl rfl (by decide) (WL_gF rfl rfl rfl rfl rfl (by decide) (WL_gF rfl rfl rfl rfl rfl (by decide) (WL_gPT rfl rfl rfl rfl rfl (by decide) (Pu_pickT rfl rfl rfl rfl) (WL_pure rfl rfl (by decide) (Pu_pickT rfl rfl rfl rfl) (WL_pure rfl rfl (by decide) (Pu_assign rfl rfl) (WL_nil (X_then ?_))))))))))))))))))))))
        refine W_ret ?_
        exact X_ret [] (Ps := []) (res1 Tryz.results5 rfl) rfl (by decide) ⟨rfl, rfl⟩
    ·
      have hk1 : ¬ k = 1 := by have := of_decide_eq_false hc43; omega
      refine W_seq ?_
      refine W.pre (K' := [(0, _), (1, _), (4, _), (5, _), (6, _), (11, _), (20, _), (21, _), (43, _)]) (L' := [(0, _), (50, _), (301, _)]) ?_ ⟨rfl, ⟨rfl, ⟨rfl, ⟨rfl, ⟨rfl, ⟨rfl, ⟨rfl, ⟨rfl, ⟨rfl, trivial⟩⟩⟩⟩⟩⟩⟩⟩⟩ ⟨rfl, ⟨rfl, ⟨rfl, trivial⟩⟩⟩
      refine W_regL (WL_pure rfl rfl (by decide) (Pu_bin rfl rfl rfl (run_eql _ _ _ _ _ _)) (WL_pure rfl rfl (by decide) (Pu_assign rfl rfl) (WL_nil (X_then ?_))))
      refine W_cond rfl (fun hc53 => ?_) (fun hc53 => ?_)
      ·
        have hk2 : k = 2 := by have := of_decide_eq_true hc53; omega
        refine W.pre (K' := [(0, _), (1, _), (4, _), (5, _), (6, _), (11, _), (20, _), (21, _), (43, _), (53, _)]) (L' := [(0, _), (50, _), (301, _)]) ?_ ⟨rfl, ⟨rfl, ⟨rfl, ⟨rfl, ⟨rfl, ⟨rfl, ⟨rfl, ⟨rfl, ⟨rfl, ⟨rfl, trivial⟩⟩⟩⟩⟩⟩⟩⟩⟩⟩ ⟨rfl, ⟨rfl, ⟨rfl, trivial⟩⟩⟩
        refine W_regL (WL_pure rfl rfl (by decide) (Pu_move rfl rfl) (WL_pure rfl rfl (by decide) (Pu_build (V := .agg (itC ([47, 99, 47, 100], .slice none 0 0, [])).toArray) [(0, 1), (1, 1)] ([sV [], .slice none 0 0]) rfl rfl (by kernel_rfl) (by kernel_rfl) (.one rfl rfl (by decide) rfl (.nil _)) rfl) (WL_cons rfl rfl (by decide) (OpT_buildRows (r := 401) [itC ([47, 99, 47, 100], .slice none 0 0, [])] rfl rfl Tryz.runUnderlying24 Tryz.sizeOf38 Tryz.zeroValue38 rfl (by decide) rfl (by decide) (by intro r hr; simp at hr; rw [hr]; rfl) rfl (fun v57 => (WL_cons rfl rfl (by decide) (OpT_append (r := 301) (r2 := 401) rfl Tryz.underlying24 TI.hi38 TI.hz38 TI.hs38 TI.hby38 TI.hzs38 (by decide) rfl rfl rfl rfl (fun _ h => rowP_rd h) (by intro u hu; simp at hu; exact itC_one (by exact rfl) u hu) (by unfold maxLen; show 2 + 1 ≤ _; decide) (by show (2 + 1) * 40 ≤ _; decide) (fun v58 => ?_))))))))
        refine WL_turn (P' := rowR itC 2 38 v58 (base2 v14 ++ [([47, 99, 47, 100], .slice none 0 0, [])])) (r := 301) rfl (fun h hp => row_b hp) ?_
        refine (WL_pure rfl rfl (by decide) (Pu_assign rfl rfl) (WL_pure rfl rfl (by decide) (Pu_assign rfl rfl) (WL_nil (X_block (X_then ?_)))))
        refine W_seq ?_
        refine W.pre (K' := [(0, _), (1, _), (4, _), (5, _), (6, _), (11, _), (20, _), (21, _), (43, _), (53, _)]) (L' := [(0, _), (50, _), (301, _), (401, _)]) ?_ ⟨rfl, ⟨rfl, ⟨rfl, ⟨rfl, ⟨rfl, ⟨rfl, ⟨rfl, ⟨rfl, ⟨rfl, ⟨rfl, trivial⟩⟩⟩⟩⟩⟩⟩⟩⟩⟩ ⟨rfl, ⟨rfl, ⟨rfl, ⟨rfl, trivial⟩⟩⟩⟩
        obtain ⟨xs, hxs⟩ : ∃ xs : List F3, xs = base2 v14 ++ [([47, 99, 47, 100], .slice none 0 0, [])] := ⟨_, rfl⟩
        have hbe : buildE xs = 7 := by rw [hxs]; exact case2 v14
        refine W_turn (P' := rowR itC 2 38 v58 xs) 301 rfl (fun h hp => by rw [hxs]; exact hp) ?_
        have hxl : xs.length ≤ 22 := by rw [hxs]; simp [base2]
        have hxb : ∀ x ∈ xs, x.1.length ≤ 900000 ∧ x.2.2.length ≤ 100000000000 := by rw [hxs]; exact (by intro y hy; simp [base2] at hy; rcases hy with rfl | rfl | rfl <;> simp <;> omega)
        refine W_regL (WL_pure rfl rfl (by decide) (Pu_move rfl rfl) (WL_cons rfl rfl (by decide) (OpT_call 500 [0, 50, 301, 401] [] rfl Tryz.call16 rfl rfl rfl (by decide) (by decide) (build_spec v58 xs (by omega) hxb _ (rd_star 2 rfl rowR_rd) (by rw [hxs]; exact fun h hs => dat_cons (rd_star 1 rfl (fun h2 hp => frz_rd hp) h hs) (dat_cons rd_nil0 (dat_cons rd_nil0 dat_nil))) (tabs_star 0 rfl hT)) (fun v86 Ps86 hR86 => ?_))))
        obtain ⟨vb, id, l, rfl, rfl, hid, hbad, _⟩ := hR86
        refine WL_fact (r := 500) rfl (fun h hp => treeP_one hp) (fun (hvo : vb.oneCell' = true) => ?_)
        rw [hbe]
        obtain ⟨rfl, rfl, rfl⟩ := hbad (by rw [hbe]; decide)
        refine (WL_pure rfl rfl (by decide) (Pu_move rfl rfl) (WL_pure rfl rfl (by decide) (Pu_extract rfl rfl rfl) (WL_pure rfl rfl (by decide) (Pu_extract rfl rfl rfl) (WL_cons rfl rfl (by decide) (OpT_alloc (r := 501) (cs := (treeC (.slice none 0 0) zeroId)) rfl (zero_run (by kernel_rfl : (Tryz.prog.info? 31).bind (·.zero) = some (.agg (treeC (.slice none 0 0) zeroId).toArray))) rfl (fun g501 => (WL_cons0 rfl rfl (OpT_storeAll (r := 501) rfl Tryz.sizeOf31 rfl rfl rfl (treeC_length zeroId_length) (treeC_length hid) (treeC_one hvo) ?_))))))))
        refine (WL_pure rfl rfl (by decide) (Pu_assign rfl rfl) (WL_nil (X_then ?_)))
        refine W_seq ?_
        refine W.pre (K' := [(0, _), (1, _), (4, _), (5, _), (6, _), (8, _), (9, _), (11, _), (20, _), (21, _), (43, _), (53, _)]) (L' := [(0, _), (50, _), (301, _), (401, _), (500, _), (501, _)]) ?_ ⟨rfl, ⟨rfl, ⟨rfl, ⟨rfl, ⟨rfl, ⟨rfl, ⟨rfl, ⟨rfl, ⟨rfl, ⟨rfl, ⟨rfl, ⟨rfl, trivial⟩⟩⟩⟩⟩⟩⟩⟩⟩⟩⟩⟩ ⟨rfl, ⟨rfl, ⟨rfl, ⟨rfl, ⟨rfl, ⟨rfl, trivial⟩⟩⟩⟩⟩⟩
        refine W_regL (WL_pure rfl rfl (by decide) (Pu_move rfl rfl) (WL_pure rfl rfl (by decide) (Pu_move rfl rfl) (WL_pure rfl rfl (by decide) (Pu_bin rfl rfl rfl (run_eql _ _ _ _ _ _)) (WL_pure rfl rfl (by decide) (Pu_move rfl rfl) (WL_gPT rfl rfl rfl rfl rfl (by decide) (Pu_move rfl rfl) (WL_gPT rfl rfl rfl rfl rfl (by decide) (Pu_bin rfl rfl rfl (run_eql _ _ _ _ _ _)) (WL_gPT rfl rfl rfl rfl rfl (by decide) (Pu_move rfl rfl) (WL_gPT rfl rfl rfl rfl rfl (by decide) (Pu_fieldAddrB (off := 0) rfl rfl (by kernel_rfl)) (WL_gPT rfl rfl rfl rfl rfl (by decide) (Pu_loadB (r := 501) rfl Tryz.isAgg27 rfl rfl rfl) (WL_gPT rfl rfl rfl rfl rfl (by decide) (Pu_len (r := 0) rfl Tryz.runUnderlying27 rfl rfl (fun _ _ => rd_nil0 (size := 1))) (WL_gPT rfl rfl rfl rfl rfl (by decide) (Pu_bin rfl rfl rfl (run_eql _ _ _ _ _ _)) (WL_gPT rfl rfl rfl rfl rfl (by decide) (Pu_move rfl rfl) (WL_gPT rfl rfl rfl rfl rfl (by decide) (Pu_fieldAddrB (off := 1) rfl rfl (by kernel_rfl)) (WL_gPT rfl rfl rfl rfl rfl (by decide) (Pu_loadBN (r := 501) rfl Tryz.isAgg29 Tryz.sizeOf29 rfl rfl rfl (tree_id zeroId_length)) (WL_gPT rfl rfl rfl rfl rfl (by decide) (Pu_built (cells := bs zeroId) rfl rfl (by kernel_rfl)) (WL_gPT rfl rfl rfl rfl rfl (by decide) (Pu_bin rfl rfl rfl (run_idEq zeroId zeroId zeroId_length zeroId_length _ _)) (WL_gPT rfl rfl rfl rfl rfl (by decide) (Pu_pickT rfl rfl rfl rfl) (WL_gPT rfl rfl rfl rfl rfl (by decide) (Pu_pickF rfl rfl rfl rfl) (WL_pure rfl rfl (by decide) (Pu_pickT rfl rfl rfl rfl) (WL_pure rfl rfl (by decide) (Pu_assign rfl rfl) (WL_nil (X_then ?_))))))))))))))))))))))
        refine W_ret ?_
        exact X_ret [] (Ps := []) (res1 Tryz.results5 rfl) rfl (by decide) ⟨rfl, rfl⟩
      ·
        have hk2 : ¬ k = 2 := by have := of_decide_eq_false hc53; omega
        refine W_seq ?_
        refine W.pre (K' := [(0, _), (1, _), (4, _), (5, _), (6, _), (11, _), (20, _), (21, _), (43, _), (53, _)]) (L' := [(0, _), (50, _), (301, _)]) ?_ ⟨rfl, ⟨rfl, ⟨rfl, ⟨rfl, ⟨rfl, ⟨rfl, ⟨rfl, ⟨rfl, ⟨rfl, ⟨rfl, trivial⟩⟩⟩⟩⟩⟩⟩⟩⟩⟩ ⟨rfl, ⟨rfl, ⟨rfl, trivial⟩⟩⟩
        refine W_regL (WL_pure rfl rfl (by decide) (Pu_bin rfl rfl rfl (run_eql _ _ _ _ _ _)) (WL_pure rfl rfl (by decide) (Pu_assign rfl rfl) (WL_nil (X_then ?_))))
        refine W_cond rfl (fun hc59 => ?_) (fun hc59 => ?_)
        ·
          have hk3 : k = 3 := by have := of_decide_eq_true hc59; omega
          refine W.pre (K' := [(0, _), (1, _), (4, _), (5, _), (6, _), (11, _), (20, _), (21, _), (43, _), (53, _), (59, _)]) (L' := [(0, _), (50, _), (301, _)]) ?_ ⟨rfl, ⟨rfl, ⟨rfl, ⟨rfl, ⟨rfl, ⟨rfl, ⟨rfl, ⟨rfl, ⟨rfl, ⟨rfl, ⟨rfl, trivial⟩⟩⟩⟩⟩⟩⟩⟩⟩⟩⟩ ⟨rfl, ⟨rfl, ⟨rfl, trivial⟩⟩⟩
          refine W_regL (WL_pure rfl rfl (by decide) (Pu_move rfl rfl) (WL_pure rfl rfl (by decide) (Pu_build (V := .agg (itC ([47, 97], .slice none 0 0, [])).toArray) [(0, 1), (1, 1)] ([sV [], .slice none 0 0]) rfl rfl (by kernel_rfl) (by kernel_rfl) (.one rfl rfl (by decide) rfl (.nil _)) rfl) (WL_cons rfl rfl (by decide) (OpT_buildRows (r := 401) [itC ([47, 97], .slice none 0 0, [])] rfl rfl Tryz.runUnderlying24 Tryz.sizeOf38 Tryz.zeroValue38 rfl (by decide) rfl (by decide) (by intro r hr; simp at hr; rw [hr]; rfl) rfl (fun v63 => (WL_cons rfl rfl (by decide) (OpT_append (r := 301) (r2 := 401) rfl Tryz.underlying24 TI.hi38 TI.hz38 TI.hs38 TI.hby38 TI.hzs38 (by decide) rfl rfl rfl rfl (fun _ h => rowP_rd h) (by intro u hu; simp at hu; exact itC_one (by exact rfl) u hu) (by unfold maxLen; show 2 + 1 ≤ _; decide) (by show (2 + 1) * 40 ≤ _; decide) (fun v64 => ?_))))))))
          refine WL_turn (P' := rowR itC 2 38 v64 (base2 v14 ++ [([47, 97], .slice none 0 0, [])])) (r := 301) rfl (fun h hp => row_b hp) ?_
          refine (WL_pure rfl rfl (by decide) (Pu_assign rfl rfl) (WL_pure rfl rfl (by decide) (Pu_assign rfl rfl) (WL_nil (X_block (X_then ?_)))))
          refine W_seq ?_
          refine W.pre (K' := [(0, _), (1, _), (4, _), (5, _), (6, _), (11, _), (20, _), (21, _), (43, _), (53, _), (59, _)]) (L' := [(0, _), (50, _), (301, _), (401, _)]) ?_ ⟨rfl, ⟨rfl, ⟨rfl, ⟨rfl, ⟨rfl, ⟨rfl, ⟨rfl, ⟨rfl, ⟨rfl, ⟨rfl, ⟨rfl, trivial⟩⟩⟩⟩⟩⟩⟩⟩⟩⟩⟩ ⟨rfl, ⟨rfl, ⟨rfl, ⟨rfl, trivial⟩⟩⟩⟩
          obtain ⟨xs, hxs⟩ : ∃ xs : List F3, xs = base2 v14 ++ [([47, 97], .slice none 0 0, [])] := ⟨_, rfl⟩
          have hbe : buildE xs = 7 := by rw [hxs]; exact case3 v14
          refine W_turn (P' := rowR itC 2 38 v64 xs) 301 rfl (fun h hp => by rw [hxs]; exact hp) ?_
          have hxl : xs.length ≤ 22 := by rw [hxs]; simp [base2]
          have hxb : ∀ x ∈ xs, x.1.length ≤ 900000 ∧ x.2.2.length ≤ 100000000000 := by rw [hxs]; exact (by intro y hy; simp [base2] at hy; rcases hy with rfl | rfl | rfl <;> simp <;> omega)
          refine W_regL (WL_pure rfl rfl (by decide) (Pu_move rfl rfl) (WL_cons rfl rfl (by decide) (OpT_call 500 [0, 50, 301, 401] [] rfl Tryz.call16 rfl rfl rfl (by decide) (by decide) (build_spec v64 xs (by omega) hxb _ (rd_star 2 rfl rowR_rd) (by rw [hxs]; exact fun h hs => dat_cons (rd_star 1 rfl (fun h2 hp => frz_rd hp) h hs) (dat_cons rd_nil0 (dat_cons rd_nil0 dat_nil))) (tabs_star 0 rfl hT)) (fun v86 Ps86 hR86 => ?_))))
          obtain ⟨vb, id, l, rfl, rfl, hid, hbad, _⟩ := hR86
          refine WL_fact (r := 500) rfl (fun h hp => treeP_one hp) (fun (hvo : vb.oneCell' = true) => ?_)
          rw [hbe]
          obtain ⟨rfl, rfl, rfl⟩ := hbad (by rw [hbe]; decide)
          refine (WL_pure rfl rfl (by decide) (Pu_move rfl rfl) (WL_pure rfl rfl (by decide) (Pu_extract rfl rfl rfl) (WL_pure rfl rfl (by decide) (Pu_extract rfl rfl rfl) (WL_cons rfl rfl (by decide) (OpT_alloc (r := 501) (cs := (treeC (.slice none 0 0) zeroId)) rfl (zero_run (by kernel_rfl : (Tryz.prog.info? 31).bind (·.zero) = some (.agg (treeC (.slice none 0 0) zeroId).toArray))) rfl (fun g501 => (WL_cons0 rfl rfl (OpT_storeAll (r := 501) rfl Tryz.sizeOf31 rfl rfl rfl (treeC_length zeroId_length) (treeC_length hid) (treeC_one hvo) ?_))))))))
          refine (WL_pure rfl rfl (by decide) (Pu_assign rfl rfl) (WL_nil (X_then ?_)))
          refine W_seq ?_
          refine W.pre (K' := [(0, _), (1, _), (4, _), (5, _), (6, _), (8, _), (9, _), (11, _), (20, _), (21, _), (43, _), (53, _), (59, _)]) (L' := [(0, _), (50, _), (301, _), (401, _), (500, _), (501, _)]) ?_ ⟨rfl, ⟨rfl, ⟨rfl, ⟨rfl, ⟨rfl, ⟨rfl, ⟨rfl, ⟨rfl, ⟨rfl, ⟨rfl, ⟨rfl, ⟨rfl, ⟨rfl, trivial⟩⟩⟩⟩⟩⟩⟩⟩⟩⟩⟩⟩⟩ ⟨rfl, ⟨rfl, ⟨rfl, ⟨rfl, ⟨rfl, ⟨rfl, trivial⟩⟩⟩⟩⟩⟩
          refine W_regL (WL_pure rfl rfl (by decide) (Pu_move rfl rfl) (WL_pure rfl rfl (by decide) (Pu_move rfl rfl) (WL_pure rfl rfl (by decide) (Pu_bin rfl rfl rfl (run_eql _ _ _ _ _ _)) (WL_pure rfl rfl (by decide) (Pu_move rfl rfl) (WL_gPT rfl rfl rfl rfl rfl (by decide) (Pu_move rfl rfl) (WL_gPT rfl rfl rfl rfl rfl (by decide) (Pu_bin rfl rfl rfl (run_eql _ _ _ _ _ _)) (WL_gPT rfl rfl rfl rfl rfl (by decide) (Pu_move rfl rfl) (WL_gPT rfl rfl rfl rfl rfl (by decide) (Pu_fieldAddrB (off := 0) rfl rfl (by kernel_rfl)) (WL_gPT rfl rfl rfl rfl rfl (by decide) (Pu_loadB (r := 501) rfl Tryz.isAgg27 rfl rfl rfl) (WL_gPT rfl rfl rfl rfl rfl (by decide) (Pu_len (r := 0) rfl Tryz.runUnderlying27 rfl rfl (fun _ _ => rd_nil0 (size := 1))) (WL_gPT rfl rfl rfl rfl rfl (by decide) (Pu_bin rfl rfl rfl (run_eql _ _ _ _ _ _)) (WL_gPT rfl rfl rfl rfl rfl (by decide) (Pu_move rfl rfl) (WL_gPT rfl rfl rfl rfl rfl (by decide) (Pu_fieldAddrB (off := 1) rfl rfl (by kernel_rfl)) (WL_gPT rfl rfl rfl rfl rfl (by decide) (Pu_loadBN (r := 501) rfl Tryz.isAgg29 Tryz.sizeOf29 rfl rfl rfl (tree_id zeroId_length)) (WL_gPT rfl rfl rfl rfl rfl (by decide) (Pu_built (cells := bs zeroId) rfl rfl (by kernel_rfl)) (WL_gPT rfl rfl rfl rfl rfl (by decide) (Pu_bin rfl rfl rfl (run_idEq zeroId zeroId zeroId_length zeroId_length _ _)) (WL_gPT rfl rfl rfl rfl rfl (by decide) (Pu_pickT rfl rfl rfl rfl) (WL_gPT rfl rfl rfl rfl rfl (by decide) (Pu_pickF rfl rfl rfl rfl) (WL_pure rfl rfl (by decide) (Pu_pickT rfl rfl rfl rfl) (WL_pure rfl rfl (by decide) (Pu_assign rfl rfl) (WL_nil (X_then ?_))))))))))))))))))))))
          refine W_ret ?_
          exact X_ret [] (Ps := []) (res1 Tryz.results5 rfl) rfl (by decide) ⟨rfl, rfl⟩
        ·
          have hk3 : ¬ k = 3 := by have := of_decide_eq_false hc59; omega
          refine W_seq ?_
          refine W.pre (K' := [(0, _), (1, _), (4, _), (5, _), (6, _), (11, _), (20, _), (21, _), (43, _), (53, _), (59, _)]) (L' := [(0, _), (50, _), (301, _)]) ?_ ⟨rfl, ⟨rfl, ⟨rfl, ⟨rfl, ⟨rfl, ⟨rfl, ⟨rfl, ⟨rfl, ⟨rfl, ⟨rfl, ⟨rfl, trivial⟩⟩⟩⟩⟩⟩⟩⟩⟩⟩⟩ ⟨rfl, ⟨rfl, ⟨rfl, trivial⟩⟩⟩
          refine W_regL (WL_pure rfl rfl (by decide) (Pu_bin rfl rfl rfl (run_eql _ _ _ _ _ _)) (WL_pure rfl rfl (by decide) (Pu_assign rfl rfl) (WL_nil (X_then ?_))))
          refine W_cond rfl (fun hc65 => ?_) (fun hc65 => ?_)
          ·
            have hk4 : k = 4 := by have := of_decide_eq_true hc65; omega
            refine W.pre (K' := [(0, _), (1, _), (4, _), (5, _), (6, _), (11, _), (20, _), (21, _), (43, _), (53, _), (59, _), (65, _)]) (L' := [(0, _), (50, _), (301, _)]) ?_ ⟨rfl, ⟨rfl, ⟨rfl, ⟨rfl, ⟨rfl, ⟨rfl, ⟨rfl, ⟨rfl, ⟨rfl, ⟨rfl, ⟨rfl, ⟨rfl, trivial⟩⟩⟩⟩⟩⟩⟩⟩⟩⟩⟩⟩ ⟨rfl, ⟨rfl, ⟨rfl, trivial⟩⟩⟩
            refine W_regL (WL_pure rfl rfl (by decide) (Pu_move rfl rfl) (WL_cons rfl rfl (by decide) (OpT_buildFull (r := 51) (bs [121]) rfl rfl Tryz.runUnderlying36 Tryz.sizeOf5 Tryz.zeroValue5 rfl rfl (by decide) rfl (bs_cells _) (fun v68 => ?_))))
            refine (WL_cons rfl rfl (by decide) (OpT_convFrz (r := 51) rfl Tryz.underlying36 Tryz.underlying5 rfl rfl ?_))
            refine WL_fact (r := 51) rfl (fun h hp => rd_one (frz_rd hp)) (fun ho68 => ?_)
            refine (WL_pure rfl rfl (by decide) (Pu_build (V := .agg (itC ([47, 99], v68, [121])).toArray) [(0, 1), (1, 1)] ([sV [], .slice none 0 0]) rfl rfl (by kernel_rfl) (by kernel_rfl) (.one rfl rfl (by decide) rfl (.one rfl ho68 (by decide) rfl (.nil _))) rfl) (WL_cons rfl rfl (by decide) (OpT_buildRows (r := 401) [itC ([47, 99], v68, [121])] rfl rfl Tryz.runUnderlying24 Tryz.sizeOf38 Tryz.zeroValue38 rfl (by decide) rfl (by decide) (by intro r hr; simp at hr; rw [hr]; rfl) rfl (fun v71 => (WL_cons rfl rfl (by decide) (OpT_append (r := 301) (r2 := 401) rfl Tryz.underlying24 TI.hi38 TI.hz38 TI.hs38 TI.hby38 TI.hzs38 (by decide) rfl rfl rfl rfl (fun _ h => rowP_rd h) (by intro u hu; simp at hu; exact itC_one (by exact ho68) u hu) (by unfold maxLen; show 2 + 1 ≤ _; decide) (by show (2 + 1) * 40 ≤ _; decide) (fun v72 => ?_)))))))
            refine WL_turn (P' := rowR itC 2 38 v72 (base2 v14 ++ [([47, 99], v68, [121])])) (r := 301) rfl (fun h hp => row_b hp) ?_
            refine (WL_pure rfl rfl (by decide) (Pu_assign rfl rfl) (WL_pure rfl rfl (by decide) (Pu_assign rfl rfl) (WL_nil (X_block (X_then ?_)))))
            refine W_seq ?_
            refine W.pre (K' := [(0, _), (1, _), (4, _), (5, _), (6, _), (11, _), (20, _), (21, _), (43, _), (53, _), (59, _), (65, _)]) (L' := [(0, _), (50, _), (51, _), (301, _), (401, _)]) ?_ ⟨rfl, ⟨rfl, ⟨rfl, ⟨rfl, ⟨rfl, ⟨rfl, ⟨rfl, ⟨rfl, ⟨rfl, ⟨rfl, ⟨rfl, ⟨rfl, trivial⟩⟩⟩⟩⟩⟩⟩⟩⟩⟩⟩⟩ ⟨rfl, ⟨rfl, ⟨rfl, ⟨rfl, ⟨rfl, trivial⟩⟩⟩⟩⟩
            obtain ⟨xs, hxs⟩ : ∃ xs : List F3, xs = base2 v14 ++ [([47, 99], v68, [121])] := ⟨_, rfl⟩
            have hbe : buildE xs = 7 := by rw [hxs]; exact case4 v14 v68
            refine W_turn (P' := rowR itC 2 38 v72 xs) 301 rfl (fun h hp => by rw [hxs]; exact hp) ?_
            have hxl : xs.length ≤ 22 := by rw [hxs]; simp [base2]
            have hxb : ∀ x ∈ xs, x.1.length ≤ 900000 ∧ x.2.2.length ≤ 100000000000 := by rw [hxs]; exact (by intro y hy; simp [base2] at hy; rcases hy with rfl | rfl | rfl <;> simp <;> omega)
            refine W_regL (WL_pure rfl rfl (by decide) (Pu_move rfl rfl) (WL_cons rfl rfl (by decide) (OpT_call 500 [0, 50, 51, 301, 401] [] rfl Tryz.call16 rfl rfl rfl (by decide) (by decide) (build_spec v72 xs (by omega) hxb _ (rd_star 3 rfl rowR_rd) (by rw [hxs]; exact fun h hs => dat_cons (rd_star 1 rfl (fun h2 hp => frz_rd hp) h hs) (dat_cons rd_nil0 (dat_cons (rd_star 2 rfl (fun h2 hp => frz_rd hp) h hs) dat_nil))) (tabs_star 0 rfl hT)) (fun v86 Ps86 hR86 => ?_))))
            obtain ⟨vb, id, l, rfl, rfl, hid, hbad, _⟩ := hR86
            refine WL_fact (r := 500) rfl (fun h hp => treeP_one hp) (fun (hvo : vb.oneCell' = true) => ?_)
            rw [hbe]
            obtain ⟨rfl, rfl, rfl⟩ := hbad (by rw [hbe]; decide)
            refine (WL_pure rfl rfl (by decide) (Pu_move rfl rfl) (WL_pure rfl rfl (by decide) (Pu_extract rfl rfl rfl) (WL_pure rfl rfl (by decide) (Pu_extract rfl rfl rfl) (WL_cons rfl rfl (by decide) (OpT_alloc (r := 501) (cs := (treeC (.slice none 0 0) zeroId)) rfl (zero_run (by kernel_rfl : (Tryz.prog.info? 31).bind (·.zero) = some (.agg (treeC (.slice none 0 0) zeroId).toArray))) rfl (fun g501 => (WL_cons0 rfl rfl (OpT_storeAll (r := 501) rfl Tryz.sizeOf31 rfl rfl rfl (treeC_length zeroId_length) (treeC_length hid) (treeC_one hvo) ?_))))))))
            refine (WL_pure rfl rfl (by decide) (Pu_assign rfl rfl) (WL_nil (X_then ?_)))
            refine W_seq ?_
            refine W.pre (K' := [(0, _), (1, _), (4, _), (5, _), (6, _), (8, _), (9, _), (11, _), (20, _), (21, _), (43, _), (53, _), (59, _), (65, _)]) (L' := [(0, _), (50, _), (51, _), (301, _), (401, _), (500, _), (501, _)]) ?_ ⟨rfl, ⟨rfl, ⟨rfl, ⟨rfl, ⟨rfl, ⟨rfl, ⟨rfl, ⟨rfl, ⟨rfl, ⟨rfl, ⟨rfl, ⟨rfl, ⟨rfl, ⟨rfl, trivial⟩⟩⟩⟩⟩⟩⟩⟩⟩⟩⟩⟩⟩⟩ ⟨rfl, ⟨rfl, ⟨rfl, ⟨rfl, ⟨rfl, ⟨rfl, ⟨rfl, trivial⟩⟩⟩⟩⟩⟩⟩
            refine W_regL (WL_pure rfl rfl (by decide) (Pu_move rfl rfl) (WL_pure rfl rfl (by decide) (Pu_move rfl rfl) (WL_pure rfl rfl (by decide) (Pu_bin rfl rfl rfl (run_eql _ _ _ _ _ _)) (WL_pure rfl rfl (by decide) (Pu_move rfl rfl) (WL_gPT rfl rfl rfl rfl rfl (by decide) (Pu_move rfl rfl) (WL_gPT rfl rfl rfl rfl rfl (by decide) (Pu_bin rfl rfl rfl (run_eql _ _ _ _ _ _)) (WL_gPT rfl rfl rfl rfl rfl (by decide) (Pu_move rfl rfl) (WL_gPT rfl rfl rfl rfl rfl (by decide) (Pu_fieldAddrB (off := 0) rfl rfl (by kernel_rfl)) (WL_gPT rfl rfl rfl rfl rfl (by decide) (Pu_loadB (r := 501) rfl Tryz.isAgg27 rfl rfl rfl) (WL_gPT rfl rfl rfl rfl rfl (by decide) (Pu_len (r := 0) rfl Tryz.runUnderlying27 rfl rfl (fun _ _ => rd_nil0 (size := 1))) (WL_gPT rfl rfl rfl rfl rfl (by decide) (Pu_bin rfl rfl rfl (run_eql _ _ _ _ _ _)) (WL_gPT rfl rfl rfl rfl rfl (by decide) (Pu_move rfl rfl) (WL_gPT rfl rfl rfl rfl rfl (by decide) (Pu_fieldAddrB (off := 1) rfl rfl (by kernel_rfl)) (WL_gPT rfl rfl rfl rfl rfl (by decide) (Pu_loadBN (r := 501) rfl Tryz.isAgg29 Tryz.sizeOf29 rfl rfl rfl (tree_id zeroId_length)) (WL_gPT rfl rfl rfl rfl rfl (by decide) (Pu_built (cells := bs zeroId) rfl rfl (by kernel_rfl)) (WL_gPT rfl rfl rfl rfl rfl (by decide) (Pu_bin rfl rfl rfl (run_idEq zeroId zeroId zeroId_length zeroId_length _ _)) (WL_gPT rfl rfl rfl rfl rfl (by decide) (Pu_pickT rfl rfl rfl rfl) (WL_gPT rfl rfl rfl rfl rfl (by decide) (Pu_pickF rfl rfl rfl rfl) (WL_pure rfl rfl (by decide) (Pu_pickT rfl rfl rfl rfl) (WL_pure rfl rfl (by decide) (Pu_assign rfl rfl) (WL_nil (X_then ?_))))))))))))))))))))))
            refine W_ret ?_
            exact X_ret [] (Ps := []) (res1 Tryz.results5 rfl) rfl (by decide) ⟨rfl, rfl⟩
          ·
            have hk4 : ¬ k = 4 := by have := of_decide_eq_false hc65; omega
            refine W_seq ?_
            refine W.pre (K' := [(0, _), (1, _), (4, _), (5, _), (6, _), (11, _), (20, _), (21, _), (43, _), (53, _), (59, _), (65, _)]) (L' := [(0, _), (50, _), (301, _)]) ?_ ⟨rfl, ⟨rfl, ⟨rfl, ⟨rfl, ⟨rfl, ⟨rfl, ⟨rfl, ⟨rfl, ⟨rfl, ⟨rfl, ⟨rfl, ⟨rfl, trivial⟩⟩⟩⟩⟩⟩⟩⟩⟩⟩⟩⟩ ⟨rfl, ⟨rfl, ⟨rfl, trivial⟩⟩⟩
            refine W_regL (WL_pure rfl rfl (by decide) (Pu_bin rfl rfl rfl (run_eql _ _ _ _ _ _)) (WL_pure rfl rfl (by decide) (Pu_assign rfl rfl) (WL_nil (X_then ?_))))
            refine W_cond rfl (fun hc73 => ?_) (fun hc73 => ?_)
            ·
              have hk5 : k = 5 := by have := of_decide_eq_true hc73; omega
              refine W.pre (K' := [(0, _), (1, _), (4, _), (5, _), (6, _), (11, _), (20, _), (21, _), (43, _), (53, _), (59, _), (65, _), (73, _)]) (L' := [(0, _), (50, _), (301, _)]) ?_ ⟨rfl, ⟨rfl, ⟨rfl, ⟨rfl, ⟨rfl, ⟨rfl, ⟨rfl, ⟨rfl, ⟨rfl, ⟨rfl, ⟨rfl, ⟨rfl, ⟨rfl, trivial⟩⟩⟩⟩⟩⟩⟩⟩⟩⟩⟩⟩⟩ ⟨rfl, ⟨rfl, ⟨rfl, trivial⟩⟩⟩
              refine W_regL (WL_pure rfl rfl (by decide) (Pu_move rfl rfl) (WL_pure rfl rfl (by decide) (Pu_build (V := .agg (itC ([47], .slice none 0 0, [])).toArray) [(0, 1), (1, 1)] ([sV [], .slice none 0 0]) rfl rfl (by kernel_rfl) (by kernel_rfl) (.one rfl rfl (by decide) rfl (.nil _)) rfl) (WL_cons rfl rfl (by decide) (OpT_buildRows (r := 401) [itC ([47], .slice none 0 0, [])] rfl rfl Tryz.runUnderlying24 Tryz.sizeOf38 Tryz.zeroValue38 rfl (by decide) rfl (by decide) (by intro r hr; simp at hr; rw [hr]; rfl) rfl (fun v77 => (WL_cons rfl rfl (by decide) (OpT_append (r := 301) (r2 := 401) rfl Tryz.underlying24 TI.hi38 TI.hz38 TI.hs38 TI.hby38 TI.hzs38 (by decide) rfl rfl rfl rfl (fun _ h => rowP_rd h) (by intro u hu; simp at hu; exact itC_one (by exact rfl) u hu) (by unfold maxLen; show 2 + 1 ≤ _; decide) (by show (2 + 1) * 40 ≤ _; decide) (fun v78 => ?_))))))))
              refine WL_turn (P' := rowR itC 2 38 v78 (base2 v14 ++ [([47], .slice none 0 0, [])])) (r := 301) rfl (fun h hp => row_b hp) ?_
              refine (WL_pure rfl rfl (by decide) (Pu_assign rfl rfl) (WL_pure rfl rfl (by decide) (Pu_assign rfl rfl) (WL_nil (X_block (X_then ?_)))))
              refine W_seq ?_
              refine W.pre (K' := [(0, _), (1, _), (4, _), (5, _), (6, _), (11, _), (20, _), (21, _), (43, _), (53, _), (59, _), (65, _), (73, _)]) (L' := [(0, _), (50, _), (301, _), (401, _)]) ?_ ⟨rfl, ⟨rfl, ⟨rfl, ⟨rfl, ⟨rfl, ⟨rfl, ⟨rfl, ⟨rfl, ⟨rfl, ⟨rfl, ⟨rfl, ⟨rfl, ⟨rfl, trivial⟩⟩⟩⟩⟩⟩⟩⟩⟩⟩⟩⟩⟩ ⟨rfl, ⟨rfl, ⟨rfl, ⟨rfl, trivial⟩⟩⟩⟩
              obtain ⟨xs, hxs⟩ : ∃ xs : List F3, xs = base2 v14 ++ [([47], .slice none 0 0, [])] := ⟨_, rfl⟩
              have hbe : buildE xs = 10 := by rw [hxs]; exact case5 v14
              refine W_turn (P' := rowR itC 2 38 v78 xs) 301 rfl (fun h hp => by rw [hxs]; exact hp) ?_
              have hxl : xs.length ≤ 22 := by rw [hxs]; simp [base2]
              have hxb : ∀ x ∈ xs, x.1.length ≤ 900000 ∧ x.2.2.length ≤ 100000000000 := by rw [hxs]; exact (by intro y hy; simp [base2] at hy; rcases hy with rfl | rfl | rfl <;> simp <;> omega)
              refine W_regL (WL_pure rfl rfl (by decide) (Pu_move rfl rfl) (WL_cons rfl rfl (by decide) (OpT_call 500 [0, 50, 301, 401] [] rfl Tryz.call16 rfl rfl rfl (by decide) (by decide) (build_spec v78 xs (by omega) hxb _ (rd_star 2 rfl rowR_rd) (by rw [hxs]; exact fun h hs => dat_cons (rd_star 1 rfl (fun h2 hp => frz_rd hp) h hs) (dat_cons rd_nil0 (dat_cons rd_nil0 dat_nil))) (tabs_star 0 rfl hT)) (fun v86 Ps86 hR86 => ?_))))
              obtain ⟨vb, id, l, rfl, rfl, hid, hbad, _⟩ := hR86
              refine WL_fact (r := 500) rfl (fun h hp => treeP_one hp) (fun (hvo : vb.oneCell' = true) => ?_)
              rw [hbe]
              obtain ⟨rfl, rfl, rfl⟩ := hbad (by rw [hbe]; decide)
              refine (WL_pure rfl rfl (by decide) (Pu_move rfl rfl) (WL_pure rfl rfl (by decide) (Pu_extract rfl rfl rfl) (WL_pure rfl rfl (by decide) (Pu_extract rfl rfl rfl) (WL_cons rfl rfl (by decide) (OpT_alloc (r := 501) (cs := (treeC (.slice none 0 0) zeroId)) rfl (zero_run (by kernel_rfl : (Tryz.prog.info? 31).bind (·.zero) = some (.agg (treeC (.slice none 0 0) zeroId).toArray))) rfl (fun g501 => (WL_cons0 rfl rfl (OpT_storeAll (r := 501) rfl Tryz.sizeOf31 rfl rfl rfl (treeC_length zeroId_length) (treeC_length hid) (treeC_one hvo) ?_))))))))
              refine (WL_pure rfl rfl (by decide) (Pu_assign rfl rfl) (WL_nil (X_then ?_)))
              refine W_seq ?_
              refine W.pre (K' := [(0, _), (1, _), (4, _), (5, _), (6, _), (8, _), (9, _), (11, _), (20, _), (21, _), (43, _), (53, _), (59, _), (65, _), (73, _)]) (L' := [(0, _), (50, _), (301, _), (401, _), (500, _), (501, _)]) ?_ ⟨rfl, ⟨rfl, ⟨rfl, ⟨rfl, ⟨rfl, ⟨rfl, ⟨rfl, ⟨rfl, ⟨rfl, ⟨rfl, ⟨rfl, ⟨rfl, ⟨rfl, ⟨rfl, ⟨rfl, trivial⟩⟩⟩⟩⟩⟩⟩⟩⟩⟩⟩⟩⟩⟩⟩ ⟨rfl, ⟨rfl, ⟨rfl, ⟨rfl, ⟨rfl, ⟨rfl, trivial⟩⟩⟩⟩⟩⟩
              refine W_regL (WL_pure rfl rfl (by decide) (Pu_move rfl rfl) (WL_pure rfl rfl (by decide) (Pu_move rfl rfl) (WL_pure rfl rfl (by decide) (Pu_bin rfl rfl rfl (run_eql _ _ _ _ _ _)) (WL_pure rfl rfl (by decide) (Pu_move rfl rfl) (WL_gPT rfl rfl rfl rfl rfl (by decide) (Pu_move rfl rfl) (WL_gPT rfl rfl rfl rfl rfl (by decide) (Pu_bin rfl rfl rfl (run_eql _ _ _ _ _ _)) (WL_gPT rfl rfl rfl rfl rfl (by decide) (Pu_move rfl rfl) (WL_gPT rfl rfl rfl rfl rfl (by decide) (Pu_fieldAddrB (off := 0) rfl rfl (by kernel_rfl)) (WL_gPT rfl rfl rfl rfl rfl (by decide) (Pu_loadB (r := 501) rfl Tryz.isAgg27 rfl rfl rfl) (WL_gPT rfl rfl rfl rfl rfl (by decide) (Pu_len (r := 0) rfl Tryz.runUnderlying27 rfl rfl (fun _ _ => rd_nil0 (size := 1))) (WL_gPT rfl rfl rfl rfl rfl (by decide) (Pu_bin rfl rfl rfl (run_eql _ _ _ _ _ _)) (WL_gPT rfl rfl rfl rfl rfl (by decide) (Pu_move rfl rfl) (WL_gPT rfl rfl rfl rfl rfl (by decide) (Pu_fieldAddrB (off := 1) rfl rfl (by kernel_rfl)) (WL_gPT rfl rfl rfl rfl rfl (by decide) (Pu_loadBN (r := 501) rfl Tryz.isAgg29 Tryz.sizeOf29 rfl rfl rfl (tree_id zeroId_length)) (WL_gPT rfl rfl rfl rfl rfl (by decide) (Pu_built (cells := bs zeroId) rfl rfl (by kernel_rfl)) (WL_gPT rfl rfl rfl rfl rfl (by decide) (Pu_bin rfl rfl rfl (run_idEq zeroId zeroId zeroId_length zeroId_length _ _)) (WL_gPT rfl rfl rfl rfl rfl (by decide) (Pu_pickT rfl rfl rfl rfl) (WL_gPT rfl rfl rfl rfl rfl (by decide) (Pu_pickF rfl rfl rfl rfl) (WL_pure rfl rfl (by decide) (Pu_pickT rfl rfl rfl rfl) (WL_pure rfl rfl (by decide) (Pu_assign rfl rfl) (WL_nil (X_then ?_))))))))))))))))))))))
              refine W_ret ?_
              exact X_ret [] (Ps := []) (res1 Tryz.results5 rfl) rfl (by decide) ⟨rfl, rfl⟩
            ·
              have hk5 : ¬ k = 5 := by have := of_decide_eq_false hc73; omega
              refine W_seq ?_
              refine W.pre (K' := [(0, _), (1, _), (4, _), (5, _), (6, _), (11, _), (20, _), (21, _), (43, _), (53, _), (59, _), (65, _), (73, _)]) (L' := [(0, _), (50, _), (301, _)]) ?_ ⟨rfl, ⟨rfl, ⟨rfl, ⟨rfl, ⟨rfl, ⟨rfl, ⟨rfl, ⟨rfl, ⟨rfl, ⟨rfl, ⟨rfl, ⟨rfl, ⟨rfl, trivial⟩⟩⟩⟩⟩⟩⟩⟩⟩⟩⟩⟩⟩ ⟨rfl, ⟨rfl, ⟨rfl, trivial⟩⟩⟩
              refine W_regL (WL_pure rfl rfl (by decide) (Pu_bin rfl rfl rfl (run_eql _ _ _ _ _ _)) (WL_pure rfl rfl (by decide) (Pu_assign rfl rfl) (WL_nil (X_then ?_))))
              refine W_true rfl ((decide_eq_true (by omega))) ?_
              refine W.pre (K' := [(0, _), (1, _), (4, _), (5, _), (6, _), (11, _), (20, _), (21, _), (43, _), (53, _), (59, _), (65, _), (73, _), (79, _)]) (L' := [(0, _), (50, _), (301, _)]) ?_ ⟨rfl, ⟨rfl, ⟨rfl, ⟨rfl, ⟨rfl, ⟨rfl, ⟨rfl, ⟨rfl, ⟨rfl, ⟨rfl, ⟨rfl, ⟨rfl, ⟨rfl, ⟨rfl, trivial⟩⟩⟩⟩⟩⟩⟩⟩⟩⟩⟩⟩⟩⟩ ⟨rfl, ⟨rfl, ⟨rfl, trivial⟩⟩⟩
              refine W_regL (WL_pure rfl rfl (by decide) (Pu_move rfl rfl) (WL_pure rfl rfl (by decide) (Pu_idxS (r := 301) rfl Tryz.runUnderlying24 Tryz.sizeOf38 rfl rfl rfl rowR_rd (by show (0 : Int) ≤ 0 ∧ (0 : Int) < ((2 : Nat) : Int); decide)) (WL_pure rfl rfl (by decide) (Pu_fieldAddrE (off := 0) rfl rfl (by kernel_rfl)) (WL_cons0 rfl rfl (OpT_storeS1 (r := 301) rfl Tryz.sizeOf9 rfl rfl rfl rfl (by show 0 < 4; decide) (show _ = recC itC [([47, 97, 47, 47, 98], v14, [120]), ([47, 99], .slice none 0 0, [])] from rfl) ?_)))))
              refine (WL_pure rfl rfl (by decide) (Pu_assign rfl rfl) (WL_nil (X_block (X_then ?_))))
              refine W_seq ?_
              refine W.pre (K' := [(0, _), (1, _), (4, _), (5, _), (6, _), (11, _), (20, _), (21, _), (43, _), (53, _), (59, _), (65, _), (73, _), (79, _)]) (L' := [(0, _), (50, _), (301, _)]) ?_ ⟨rfl, ⟨rfl, ⟨rfl, ⟨rfl, ⟨rfl, ⟨rfl, ⟨rfl, ⟨rfl, ⟨rfl, ⟨rfl, ⟨rfl, ⟨rfl, ⟨rfl, ⟨rfl, trivial⟩⟩⟩⟩⟩⟩⟩⟩⟩⟩⟩⟩⟩⟩ ⟨rfl, ⟨rfl, ⟨rfl, trivial⟩⟩⟩
              obtain ⟨xs, hxs⟩ : ∃ xs : List F3, xs = [([47, 97, 47, 47, 98], v14, [120]), ([47, 99], .slice none 0 0, [])] := ⟨_, rfl⟩
              have hbe : buildE xs = 10 := by rw [hxs]; exact case6 v14
              refine W_turn (P' := rowR itC 2 38 v18 xs) 301 rfl (fun h hp => by rw [hxs]; exact hp) ?_
              have hxl : xs.length ≤ 22 := by rw [hxs]; simp [base2]
              have hxb : ∀ x ∈ xs, x.1.length ≤ 900000 ∧ x.2.2.length ≤ 100000000000 := by rw [hxs]; exact (by intro y hy; simp [base2] at hy; rcases hy with rfl | rfl <;> simp <;> omega)
              refine W_regL (WL_pure rfl rfl (by decide) (Pu_move rfl rfl) (WL_cons rfl rfl (by decide) (OpT_call 500 [0, 50, 301] [] rfl Tryz.call16 rfl rfl rfl (by decide) (by decide) (build_spec v18 xs (by omega) hxb _ (rd_star 2 rfl rowR_rd) (by rw [hxs]; exact fun h hs => dat_cons (rd_star 1 rfl (fun h2 hp => frz_rd hp) h hs) (dat_cons rd_nil0 dat_nil)) (tabs_star 0 rfl hT)) (fun v86 Ps86 hR86 => ?_))))
              obtain ⟨vb, id, l, rfl, rfl, hid, hbad, _⟩ := hR86
              refine WL_fact (r := 500) rfl (fun h hp => treeP_one hp) (fun (hvo : vb.oneCell' = true) => ?_)
              rw [hbe]
              obtain ⟨rfl, rfl, rfl⟩ := hbad (by rw [hbe]; decide)
              refine (WL_pure rfl rfl (by decide) (Pu_move rfl rfl) (WL_pure rfl rfl (by decide) (Pu_extract rfl rfl rfl) (WL_pure rfl rfl (by decide) (Pu_extract rfl rfl rfl) (WL_cons rfl rfl (by decide) (OpT_alloc (r := 501) (cs := (treeC (.slice none 0 0) zeroId)) rfl (zero_run (by kernel_rfl : (Tryz.prog.info? 31).bind (·.zero) = some (.agg (treeC (.slice none 0 0) zeroId).toArray))) rfl (fun g501 => (WL_cons0 rfl rfl (OpT_storeAll (r := 501) rfl Tryz.sizeOf31 rfl rfl rfl (treeC_length zeroId_length) (treeC_length hid) (treeC_one hvo) ?_))))))))
              refine (WL_pure rfl rfl (by decide) (Pu_assign rfl rfl) (WL_nil (X_then ?_)))
              refine W_seq ?_
              refine W.pre (K' := [(0, _), (1, _), (4, _), (5, _), (6, _), (8, _), (9, _), (11, _), (20, _), (21, _), (43, _), (53, _), (59, _), (65, _), (73, _), (79, _)]) (L' := [(0, _), (50, _), (301, _), (500, _), (501, _)]) ?_ ⟨rfl, ⟨rfl, ⟨rfl, ⟨rfl, ⟨rfl, ⟨rfl, ⟨rfl, ⟨rfl, ⟨rfl, ⟨rfl, ⟨rfl, ⟨rfl, ⟨rfl, ⟨rfl, ⟨rfl, ⟨rfl, trivial⟩⟩⟩⟩⟩⟩⟩⟩⟩⟩⟩⟩⟩⟩⟩⟩ ⟨rfl, ⟨rfl, ⟨rfl, ⟨rfl, ⟨rfl, trivial⟩⟩⟩⟩⟩
              refine W_regL (WL_pure rfl rfl (by decide) (Pu_move rfl rfl) (WL_pure rfl rfl (by decide) (Pu_move rfl rfl) (WL_pure rfl rfl (by decide) (Pu_bin rfl rfl rfl (run_eql _ _ _ _ _ _)) (WL_pure rfl rfl (by decide) (Pu_move rfl rfl) (WL_gPT rfl rfl rfl rfl rfl (by decide) (Pu_move rfl rfl) (WL_gPT rfl rfl rfl rfl rfl (by decide) (Pu_bin rfl rfl rfl (run_eql _ _ _ _ _ _)) (WL_gPT rfl rfl rfl rfl rfl (by decide) (Pu_move rfl rfl) (WL_gPT rfl rfl rfl rfl rfl (by decide) (Pu_fieldAddrB (off := 0) rfl rfl (by kernel_rfl)) (WL_gPT rfl rfl rfl rfl rfl (by decide) (Pu_loadB (r := 501) rfl Tryz.isAgg27 rfl rfl rfl) (WL_gPT rfl rfl rfl rfl rfl (by decide) (Pu_len (r := 0) rfl Tryz.runUnderlying27 rfl rfl (fun _ _ => rd_nil0 (size := 1))) (WL_gPT rfl rfl rfl rfl rfl (by decide) (Pu_bin rfl rfl rfl (run_eql _ _ _ _ _ _)) (WL_gPT rfl rfl rfl rfl rfl (by decide) (Pu_move rfl rfl) (WL_gPT rfl rfl rfl rfl rfl (by decide) (Pu_fieldAddrB (off := 1) rfl rfl (by kernel_rfl)) (WL_gPT rfl rfl rfl rfl rfl (by decide) (Pu_loadBN (r := 501) rfl Tryz.isAgg29 Tryz.sizeOf29 rfl rfl rfl (tree_id zeroId_length)) (WL_gPT rfl rfl rfl rfl rfl (by decide) (Pu_built (cells := bs zeroId) rfl rfl (by kernel_rfl)) (WL_gPT rfl rfl rfl rfl rfl (by decide) (Pu_bin rfl rfl rfl (run_idEq zeroId zeroId zeroId_length zeroId_length _ _)) (WL_gPT rfl rfl rfl rfl rfl (by decide) (Pu_pickT rfl rfl rfl rfl) (WL_gPT rfl rfl rfl rfl rfl (by decide) (Pu_pickF rfl rfl rfl rfl) (WL_pure rfl rfl (by decide) (Pu_pickT rfl rfl rfl rfl) (WL_pure rfl rfl (by decide) (Pu_assign rfl rfl) (WL_nil (X_then ?_))))))))))))))))))))))
              refine W_ret ?_
              exact X_ret [] (Ps := []) (res1 Tryz.results5 rfl) rfl (by decide) ⟨rfl, rfl⟩
end Go.Proofs.YthkdkmaacjpneaaGreatDoor
/- From a reading of an argument to plain facts: ints, bools, strings, slices of bytes, of ints, of rows of bytes, of structs. -/
namespace Go.Proofs.YthkdkmaacjpneaaGreatDoor
open Go.RowKit Go.ChangeShapes Go.WideShapes Go.Deep

theorem wf_i64 {n : Int} (h : (Lit.int .i64 n).wf = true) : -9223372036854775808 ≤ n ∧ n ≤ 9223372036854775807 := by
  simp only [Lit.wf, Bool.and_eq_true, decide_eq_true_eq] at h
  have h1 : IntKind.min .i64 = -9223372036854775808 := by decide
  have h2 : IntKind.max .i64 = 9223372036854775807 := by decide
  rw [h1, h2] at h
  exact h
theorem wf_u8 {n : Int} (h : (Lit.int .u8 n).wf = true) : 0 ≤ n ∧ n ≤ 255 := by
  simp only [Lit.wf, Bool.and_eq_true, decide_eq_true_eq] at h
  have h1 : IntKind.min .u8 = 0 := by decide
  have h2 : IntKind.max .u8 = 255 := by decide
  rw [h1, h2] at h
  exact h

/-- A slice of ints that reads as zs. -/
def RdI (w : World) (v : Value) (zs : List Int) : Prop := Rd w 1 v zs.length (zs.map (Value.int .i64))
def I64 (zs : List Int) : Prop := ∀ z ∈ zs, -9223372036854775808 ≤ z ∧ z ≤ 9223372036854775807
/-- A slice of bools that reads as l. -/
def RdT (w : World) (v : Value) (l : List Bool) : Prop := Rd w 1 v l.length (l.map Value.bool)
/-- A slice of rows of bytes: each with its value and its bytes. -/
def RdR (w : World) (v : Value) (ps : List (Value × List UInt8)) : Prop := Rd w 1 v ps.length (ps.map (·.1)) ∧ ∀ p ∈ ps, RdB w p.1 p.2

section
variable {H : Type} {enc : TypeId × Value → H} {P : Program} {w : World} {base : Nat} {spare : Nat → Bool} {held : Bool}

end

section
variable {H : Type} {enc : TypeId × Value → H} {P : Program} {w : World} {base b0 : Nat} {spare : Nat → Bool} {held : Bool} {r : Reach} {t : TypeId} {v : Value} {d : DataW H} {ps : List MemPlace}
theorem op_int (ht : P.underlying t = some (.int .i64)) (hv : Value.okWide P w r b0 t v) (h : DataW.Trod enc P w base spare held t v d ps) : ∃ n, v = .int .i64 n ∧ -9223372036854775808 ≤ n ∧ n ≤ 9223372036854775807 := by
  obtain ⟨n, rfl, _, _, hw⟩ := open_int ht hv h
  exact ⟨n, rfl, (wf_i64 hw).1, (wf_i64 hw).2⟩
end
end Go.Proofs.YthkdkmaacjpneaaGreatDoor
/- From a reading of an argument to plain facts: structs and arrays by value, slices of them. -/
namespace Go.Proofs.YthkdkmaacjpneaaGreatDoor
open Go.RowKit Go.ChangeShapes Go.WideShapes Go.Deep
set_option linter.unusedVariables false
section
variable {H : Type} {enc : TypeId × Value → H} {P : Program} {w : World} {base : Nat} {spare : Nat → Bool} {held : Bool}
/-- These cells read as a value of the type. -/
def Tr (enc : TypeId × Value → H) (P : Program) (w : World) (base : Nat) (spare : Nat → Bool) (held : Bool) (t : TypeId) (cs : List Value) : Prop := ∃ fuel x, DataW.trod enc P w base spare held fuel t cs = some x
theorem Tr.int {t : TypeId} {cs : List Value} (ht : P.underlying t = some (.int .i64)) (h : Tr enc P w base spare held t cs) : ∃ n, cs = [.int .i64 n] ∧ -9223372036854775808 ≤ n ∧ n ≤ 9223372036854775807 := by
  obtain ⟨f, x, h⟩ := h
  obtain ⟨n, rfl, _, hw⟩ := DataW.trod_int ht h
  exact ⟨n, rfl, wf_i64 hw⟩
theorem Tr.bool {t : TypeId} {cs : List Value} (ht : P.underlying t = some .bool) (h : Tr enc P w base spare held t cs) : ∃ b, cs = [Value.bool b] := by
  obtain ⟨f, x, h⟩ := h
  obtain ⟨b, rfl, _⟩ := DataW.trod_bool ht h
  exact ⟨b, rfl⟩
theorem Tr.u8 {t : TypeId} {cs : List Value} (ht : P.underlying t = some (.int .u8)) (h : Tr enc P w base spare held t cs) : ∃ x, cs = [bv x] := by
  obtain ⟨f, x, h⟩ := h
  obtain ⟨n, rfl, _, hw⟩ := DataW.trod_int ht h
  have := wf_u8 hw
  refine ⟨UInt8.ofNat n.toNat, ?_⟩
  simp only [bv]
  congr 2
  rw [UInt8.toNat_ofNat']
  omega
theorem Tr.struct {t : TypeId} {cs : List Value} {fs : Array Field} (ht : P.underlying t = some (.struct fs)) (h : Tr enc P w base spare held t cs) : cs.length = P.cellsOf t ∧ ∀ (i : Nat) (f : Field), fs[i]? = some f → Tr enc P w base spare held f.type ((cs.drop f.offset).take (P.cellsOf f.type)) := by
  obtain ⟨f, x, h⟩ := h
  obtain ⟨xs, n, _, _, hl, hx, hf⟩ := DataW.trod_struct ht h
  refine ⟨hl, fun i f hi => ?_⟩
  have h1 := hf i f hi
  have hlt : i < xs.length := by rw [hx]; exact (Array.getElem?_eq_some_iff.1 hi).1
  rw [List.getElem?_eq_getElem hlt] at h1
  exact ⟨n, _, h1⟩
theorem Tr.array {t e : TypeId} {n : Nat} {cs : List Value} (ht : P.underlying t = some (.array n e)) (h : Tr enc P w base spare held t cs) : cs.length = P.cellsOf t ∧ ∀ i, i < n → Tr enc P w base spare held e ((cs.drop (i * P.cellsOf e)).take (P.cellsOf e)) := by
  obtain ⟨f, x, h⟩ := h
  obtain ⟨xs, m, _, _, hl, hx, hf⟩ := DataW.trod_array ht h
  refine ⟨hl, fun i hi => ?_⟩
  have h1 := hf i hi
  rw [List.getElem?_eq_getElem (by omega)] at h1
  exact ⟨m, _, h1⟩
/-- An array of bytes. -/
theorem Tr.bytes {t e : TypeId} {n : Nat} {cs : List Value} (ht : P.underlying t = some (.array n e)) (he : P.underlying e = some (.int .u8)) (hc : P.cellsOf e = 1) (hn : P.cellsOf t = n) (h : Tr enc P w base spare held t cs) : ∃ l, cs = bs l ∧ l.length = n := by
  obtain ⟨hl, hf⟩ := h.array ht
  rw [hn] at hl
  rw [hc] at hf
  have key : ∀ (cs : List Value), (∀ i, i < cs.length → Tr enc P w base spare held e ((cs.drop (i * 1)).take 1)) → ∃ l, cs = bs l := by
    intro cs
    induction cs with
    | nil => intro _; exact ⟨[], rfl⟩
    | cons u cs ih =>
      intro h
      obtain ⟨l, rfl⟩ := ih (fun i hi => by
        have := h (i + 1) (by simpa using hi)
        simpa using this)
      obtain ⟨x, hx⟩ := (h 0 (by simp)).u8 he
      simp at hx
      exact ⟨x :: l, by simp [bs, hx]⟩
  obtain ⟨l, rfl⟩ := key cs (fun i hi => hf i (by omega))
  exact ⟨l, rfl, by rw [← hl, bs_length]⟩
end
section
variable {H : Type} {enc : TypeId × Value → H} {P : Program} {w : World} {base b0 : Nat} {spare : Nat → Bool} {held : Bool} {r : Reach} {t : TypeId} {v : Value} {d : DataW H} {ps : List MemPlace}
end
end Go.Proofs.YthkdkmaacjpneaaGreatDoor
/- How long an argument may be: the reach. -/
namespace Go.Proofs.YthkdkmaacjpneaaGreatDoor
open Go.RowKit Go.ChangeShapes Go.WideShapes Go.Deep
set_option linter.unusedVariables false
section
variable {H : Type} {enc : TypeId × Value → H} {P : Program} {w : World} {base : Nat} {spare : Nat → Bool} {held : Bool}
end
end Go.Proofs.YthkdkmaacjpneaaGreatDoor
/- From a reading of an argument to plain facts: strings, slices of strings, slices of slices of ints. -/
namespace Go.Proofs.YthkdkmaacjpneaaGreatDoor
open Go.RowKit Go.ChangeShapes Go.WideShapes Go.Deep
set_option linter.unusedVariables false
section
variable {H : Type} {enc : TypeId × Value → H} {P : Program} {w : World} {base b0 : Nat} {spare : Nat → Bool} {held : Bool} {r : Reach} {t : TypeId} {v : Value} {d : DataW H} {ps : List MemPlace}
end
end Go.Proofs.YthkdkmaacjpneaaGreatDoor
/- Trees: TreeRefuses, of any world. -/
namespace Go.Proofs.YthkdkmaacjpneaaGreatDoor
open Go.RowKit
set_option linter.unusedVariables false
theorem treeRefuses_any (W : World) (hT : ∀ h, orig W h → tabsP h) (a0 : Int) (lo0 : -9223372036854775808 ≤ a0) (hi0 : a0 ≤ 9223372036854775807) (a1 : Int) (lo1 : -9223372036854775808 ≤ a1) (hi1 : a1 ≤ 9223372036854775807) :
    Calls Tryz.prog 5 #[.int .i64 a0, .int .i64 a1] W fun e W' => e = .returned (.bool true) ∧ Chg [] W W' :=
  calls_law ((refuses_spec a0 a1 (orig W) hT).imp fun v Ps h => h.1)
end Go.Proofs.YthkdkmaacjpneaaGreatDoor
/- What the row's list gives: the library's two tables; a world that holds them. -/
namespace Go.Proofs.YthkdkmaacjpneaaGreatDoor
open Go.RowKit Go.Lib
set_option linter.unusedVariables false
set_option maxRecDepth 100000
theorem first_eq : Go.Pinned.utf8First = firstData := by kernel_rfl
theorem accept_eq : (Rows.laid_unicode_utf8_acceptRanges : DataW Unit) = acceptData := by kernel_rfl
def laidL : List (String × DataW Unit) := [("unicode/utf8.acceptRanges", Rows.laid_unicode_utf8_acceptRanges), ("unicode/utf8.first", Rows.laid_unicode_utf8_first)]
theorem tabs_of_laid {W : World} (h : laidMetH Tryz.prog laidL W) (hsh : W.ShapedOpen Tryz.prog) : ∀ h, orig W h → tabsP h := by
  rw [MakeChecks.laidMetH_plain _ _ _ (by kernel_rfl)] at h
  have h3 : VarReads Tryz.prog W "unicode/utf8.first" firstData := by
    rw [← first_eq]
    exact laidMet.reads h (List.mem_cons_of_mem _ List.mem_cons_self)
  have h4 : VarReads Tryz.prog W "unicode/utf8.acceptRanges" acceptData := by
    rw [← accept_eq]
    exact laidMet.reads h List.mem_cons_self
  refine orig_tabs (utf8Tabs_of_reads lays260 laysU h3 h4) ?_
  exact cell_of_shapedOpen_int (zero := #[.int .i64 0]) (t := 3) hsh (of_decide_eq_true (by kernel_rfl)) (by kernel_rfl) rfl (by kernel_rfl) (by kernel_rfl) Tryz.underlying3
/-- A world for the witness. -/
def lay (cs : List Value) : Obj → Obj
  | .cells _ t frozen => .cells cs.toArray t frozen
  | o => o
def firstCells : List Value := (List.range 256).map fun c => Value.int .u8 (firstT c : Int)
def acceptCells : List Value := ((List.range 16).map fun i => [Value.int .u8 (accLo i : Int), Value.int .u8 (accHi i : Int)]).flatten
noncomputable def laidWorld (os : Os) : World :=
  { World.holding Tryz.prog os ⟨#[], #[], []⟩ with heap := ((World.holding Tryz.prog os ⟨#[], #[], []⟩).heap.modify 1 (lay firstCells)).modify 2 (lay acceptCells) }
theorem laid_met (os : Os) (args : Array Value) : laidMet Tryz.prog laidL ((laidWorld os).forCall (fun _ _ => 0) ⟨#[], args, []⟩).memory :=
  laidMet_of_run' 8 (by kernel_rfl) (by kernel_rfl)
end Go.Proofs.YthkdkmaacjpneaaGreatDoor
