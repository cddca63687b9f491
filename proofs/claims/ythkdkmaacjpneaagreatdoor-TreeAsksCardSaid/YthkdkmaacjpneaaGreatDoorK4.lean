/- Texts of this proof, one behind the other: NamesD, Tree0, MapQ, Rf, ChunkL, TreeA, MapPut, Tree1, TreeB, RfD, MkL, TreeC, TreeE, TreeD. -/
import Derived.Test.YthkdkmaacjpneaaGreatDoorK3
import Derived.Test.YthkdkmaacjpneaaGreatDoorK2
import Derived.Test.YthkdkmaacjpneaaGreatDoorK1
import Derived.Maps.RangeRun
import Derived.RangeFuncLeaves
import Derived.RangeFuncSeq
import Derived.OwnWalkIn
import Derived.OrdersIn
set_option linter.unusedVariables false
set_option linter.unusedSimpArgs false
set_option linter.unusedSectionVars false
namespace Go.Proofs.YthkdkmaacjpneaaGreatDoor
open Go.RowKit Go.Lib
set_option maxRecDepth 8000

theorem dec47 (x : UInt8) : decide (((x.toNat : Nat) : Int) = 47) = (x == 47):=by
  apply Bool.eq_iff_iff.2
  simp only [decide_eq_true_eq,beq_iff_eq]
  constructor
  · intro h
    have : x.toNat = 47:=by omega
    exact UInt8.toNat_inj.1 this
  · intro h; subst h; rfl
def RS (l : List UInt8) (i at' : Nat) (acc : List (List UInt8)) : Prop :=
  ((i ≤ l.length ∧ at' ≤ i ∧ 1 ≤ at' ∧ acc ++ splitG ((l.drop at').take (i - at')) (l.drop i) = splitL (l.drop 1)) ∨ (i = l.length + 1 ∧ acc = splitL (l.drop 1))) ∧ acc.length ≤ i ∧ i ≤ l.length + 1
theorem RS_init {l : List UInt8} (h : 1 ≤ l.length) : RS l 1 1 []:=⟨.inl ⟨h,Nat.le_refl _,Nat.le_refl _,by simp [splitG_nil]⟩,by simp,by omega⟩
theorem RS_cut {l : List UInt8} {i a : Nat} {acc : List (List UInt8)} (h : RS l i a acc) (hi : i ≤ l.length) (hc : (decide ((i : Int) = (l.length : Int)) || decide (((at0 l i).toNat : Int) = 47)) = true) : RS l (i + 1) (i + 1) (acc ++ [(l.drop a).take (i - a)]):=by
  obtain ⟨h1,h2,_⟩:=h
  rcases h1 with ⟨_,ha,h1a,h3⟩ | ⟨h1,_⟩
  · refine ⟨?_,by simp; omega,by omega⟩
    rcases Nat.lt_or_ge i l.length with hlt | hge
    · rw [dec47] at hc
      simp only [Bool.or_eq_true,decide_eq_true_eq,beq_iff_eq] at hc
      have hc' : at0 l i = 47:=hc.resolve_left (by omega)
      refine .inl ⟨by omega,Nat.le_refl _,by omega,?_⟩
      rw [← h3,splitG_stroke hlt hc']
      simp
    · refine .inr ⟨by omega,?_⟩
      rw [← h3,splitG_end hge]
  · omega
theorem RS_go {l : List UInt8} {i a : Nat} {acc : List (List UInt8)} (h : RS l i a acc) (hi : i ≤ l.length) (hc : (decide ((i : Int) = (l.length : Int)) || decide (((at0 l i).toNat : Int) = 47)) = false) : RS l (i + 1) a acc:=by
  obtain ⟨h1,h2,_⟩:=h
  rw [dec47] at hc
  simp only [Bool.or_eq_false_iff,decide_eq_false_iff_not,beq_eq_false_iff_ne,ne_eq] at hc
  have hlt : i < l.length:=by omega
  rcases h1 with ⟨_,ha,h1a,h3⟩ | ⟨h1,_⟩
  · refine ⟨.inl ⟨by omega,by omega,h1a,?_⟩,by omega,by omega⟩
    rw [← h3,splitG_more hlt hc.2,take_more ha hlt]
  · omega
theorem RS_end {l : List UInt8} {i a : Nat} {acc : List (List UInt8)} (h : RS l i a acc) (hi : ¬ i ≤ l.length) : acc = splitL (l.drop 1):=by
  obtain ⟨h1,h2,_⟩:=h
  rcases h1 with ⟨h,_⟩ | ⟨_,h⟩
  · omega
  · exact h
theorem RS_at {l : List UInt8} {i a : Nat} {acc : List (List UInt8)} (h : RS l i a acc) (hi : i ≤ l.length) : a ≤ i:=by
  obtain ⟨h1,h2,_⟩:=h
  rcases h1 with ⟨_,h,_⟩ | ⟨h,_⟩ <;> omega
theorem noPath_ref {l : List UInt8} (h : 0 < l.length) : ((!decide (((at0 l 0).toNat : Int) = 47)) || decide (((at0 l (l.length - 1)).toNat : Int) = 47)) = noPath l:=by
  rw [noPath_eq h,dec47,dec47]
theorem split_rspec (l : List UInt8) (hl : l.length < 4294967281) (F : HP) : CallsS Tryz.prog 33 #[sV l] F [] (fun r Ps => ∃ v,r = .tuple #[v,.int .i64 ((splitN l).2 : Int)] ∧ Ps = [rowS 9 v (splitN l).1]):=by
 refine callsS_enter Tryz.func33 rfl Tryz.ntmps33 (by simp) (fun E => ?_)
 refine Q9 (R9 (G9 rfl rfl (G9 rfl rfl (N9 (X9 (Q9 (Q9 (R9 (M9 rfl rfl (L9 rfl (Pn9 rfl rfl rfl (run_strEq _ _ _ _ _)) (N9 (X9 ?_))))))))))))
 refine C9 rfl (fun hc9 => ?_) (fun hc9 => ?_)
 ·
  have h1 : l = [47]:=by simpa using hc9
  refine Q9 (R9 (G9 rfl rfl (G9 rfl rfl (N9 (X9 ?_)))))
  refine W_ret (X_then_ret ?_)
  have hs : splitN l = ([],0):=by unfold splitN; rw [if_pos h1]
  refine X_nilRow 9900 9 1 ?_
  exact Xq9 [9900] (Ps:=[_]) (res2 Tryz.results33 rfl rfl) rfl (by decide) ⟨_,by rw [hs] <;> rfl,by rw [hs] <;> rfl⟩
 ·
  have h1 : ¬ l = [47]:=by simpa using hc9
  refine K9 (X9 ?_)
  refine Q9 (Q9 ?_)
  rcases Bool.eq_false_or_eq_true (decide ((l.length : Int) = 0)) with hsp3 | hsp3
  ·
   have hnp : noPath l = true:=by have:=of_decide_eq_true hsp3; rw [List.eq_nil_of_length_eq_zero (by omega : l.length = 0)]; rfl
   refine R9 (M9 rfl rfl (L9 rfl (Pu_lenStr rfl Tryz.underlying9 rfl) (L9 rfl (Pn9 rfl rfl rfl (run_eql _ _ _ _ _ _)) (M9 rfl rfl (WL_gF rfl rfl rfl (by rw [hsp3]; rfl) rfl (by decide) (WL_gF rfl rfl rfl (by rw [hsp3]; rfl) rfl (by decide) (WL_gF rfl rfl rfl (by rw [hsp3]; rfl) rfl (by decide) (L9 rfl (Pu_pickT rfl rfl hsp3 rfl) (M9 rfl rfl (WL_gF rfl rfl rfl rfl rfl (by decide) (WL_gF rfl rfl rfl rfl rfl (by decide) (WL_gF rfl rfl rfl rfl rfl (by decide) (WL_gF rfl rfl rfl rfl rfl (by decide) (WL_gF rfl rfl rfl rfl rfl (by decide) (WL_gF rfl rfl rfl rfl rfl (by decide) (L9 rfl (Pu_pickT rfl rfl rfl rfl) (N9 (X9 ?_))))))))))))))))))
   refine W_true rfl (rfl) ?_
   refine Q9 (R9 (G9 rfl rfl (G9 rfl rfl (N9 (X9 ?_)))))
   refine W_ret (X_then_ret ?_)
   have hs : splitN l = ([],10):=by unfold splitN; rw [if_neg h1,if_pos hnp]
   refine X_nilRow 9900 9 1 ?_
   exact Xq9 [9900] (Ps:=[_]) (res2 Tryz.results33 rfl rfl) rfl (by decide) ⟨_,by rw [hs] <;> rfl,by rw [hs] <;> rfl⟩
  ·
   have hpos : 0 < l.length:=by have:=of_decide_eq_false hsp3; omega
   refine R9 (M9 rfl rfl (L9 rfl (Pu_lenStr rfl Tryz.underlying9 rfl) (L9 rfl (Pn9 rfl rfl rfl (run_eql _ _ _ _ _ _)) (M9 rfl rfl (WL_gPT rfl rfl rfl (by rw [hsp3]; rfl) rfl (by decide) (Pm9 rfl rfl) (WL_gPT rfl rfl rfl (by rw [hsp3]; rfl) rfl (by decide) (Pu_idxStrN (0) rfl Tryz.underlying9 rfl rfl rfl hpos) (WL_gPT rfl rfl rfl (by rw [hsp3]; rfl) rfl (by decide) (Pn9 rfl rfl rfl (run_neq _ _ _ _ _ _)) (L9 rfl (Pu_pickF rfl rfl hsp3 rfl) (M9 rfl rfl (Lg9 rfl rfl rfl rfl (by decide) (fun hb => (Pm9 rfl rfl)) (Lg9 rfl rfl rfl rfl (by decide) (fun hb => (Pm9 rfl rfl)) (Lg9 rfl rfl rfl rfl (by decide) (fun hb => (Pu_lenStr rfl Tryz.underlying9 (ev_gv rfl hb))) (Lg9 rfl rfl rfl rfl (by decide) (fun hb => (Pn9 rfl (ev_gv rfl hb) rfl (run_sub _ _ _ _ _ (by omega)))) (Lg9 rfl rfl rfl rfl (by decide) (fun hb => (Pu_idxStrN (l.length - 1) rfl Tryz.underlying9 (ev_gv rfl hb) (ev_gv rfl hb) (by omega) (by omega))) (Lg9 rfl rfl rfl rfl (by decide) (fun hb => (Pn9 rfl (ev_gv rfl hb) rfl (run_eql _ _ _ _ _ _))) (L9 rfl (Pu_or rfl rfl rfl) (N9 (X9 ?_))))))))))))))))))
   refine C9 rfl (fun hc25 => ?_) (fun hc25 => ?_)
   ·
    have hnp : noPath l = true:=(noPath_ref hpos).symm.trans hc25
    refine Q9 (R9 (G9 rfl rfl (G9 rfl rfl (N9 (X9 ?_)))))
    refine W_ret (X_then_ret ?_)
    have hs : splitN l = ([],10):=by unfold splitN; rw [if_neg h1,if_pos hnp]
    refine X_nilRow 9900 9 1 ?_
    exact Xq9 [9900] (Ps:=[_]) (res2 Tryz.results33 rfl rfl) rfl (by decide) ⟨_,by rw [hs] <;> rfl,by rw [hs] <;> rfl⟩
   ·
    have hnp : noPath l = false:=(noPath_ref hpos).symm.trans hc25
    refine K9 (X9 ?_)
    refine Q9 (R9 (G9 rfl rfl (N9 (X9 (Q9 (R9 (G9 rfl rfl (N9 (X9 (Q9 (Q9 (R9 (G9 rfl rfl (N9 (X9 ?_)))))))))))))))
    refine W_block ?_
    refine W_nilRow 101 9 1 ?_
    refine W_loop (α:=Nat × Nat × Value × List (List UInt8)) (fun x => [(0,sV l),(4,x.2.2.1),(5,.int .i64 (x.2.1 : Int)),(6,.int .i64 (x.1 : Int))]) (fun x => [(0,F),(101,rowS 9 x.2.2.1 x.2.2.2)]) (fun x => RS l x.1 x.2.1 x.2.2.2) (fun x => l.length + 1 - x.1) ((1,1,.slice none 0 0,[])) (RS_init hpos) (a9 rfl) (a9 rfl) (fun x hx => ?_)
    have hacc:=hx.2
    refine Q9 (Q9 (R9 (M9 rfl rfl (M9 rfl rfl (L9 rfl (Pu_lenStr rfl Tryz.underlying9 rfl) (L9 rfl (Pn9 rfl rfl rfl (run_leq _ _ _ _ _ _)) (N9 (X9 ?_))))))))
    refine C9 rfl (fun hc29 => ?_) (fun hc29 => ?_)
    ·
     have hle : x.1 ≤ l.length:=by have:=of_decide_eq_true hc29; omega
     have hat:=RS_at hx hle
     refine K9 (X9 ?_)
     refine Q9 ?_
     refine W_block ?_
     refine Q9 (R9 (M9 rfl rfl (M9 rfl rfl (L9 rfl (Pu_lenStr rfl Tryz.underlying9 rfl) (L9 rfl (Pn9 rfl rfl rfl (run_eql _ _ _ _ _ _)) (M9 rfl rfl (Lg9 rfl rfl rfl rfl (by decide) (fun hb => (Pm9 rfl rfl)) (Lg9 rfl rfl rfl rfl (by decide) (fun hb => (Pm9 rfl rfl)) (Lg9 rfl rfl rfl rfl (by decide) (fun hb => (Pu_idxStrN (x.1) rfl Tryz.underlying9 (ev_gv rfl hb) (ev_gv rfl hb) rfl (by have:=of_decide_eq_false (beq_false_of hb); omega))) (Lg9 rfl rfl rfl rfl (by decide) (fun hb => (Pn9 rfl (ev_gv rfl hb) rfl (run_eql _ _ _ _ _ _))) (L9 rfl (Pu_or rfl rfl rfl) (N9 (X9 ?_)))))))))))))
     refine C9 rfl (fun hc41 => ?_) (fun hc41 => ?_)
     ·
      refine Q9 ?_
      unfold rowS
      refine R9 (M9 rfl rfl (M9 rfl rfl (M9 rfl rfl (M9 rfl rfl (L9 rfl (Pu_sliceStrE (a:=x.2.1) (b:=x.1) rfl Tryz.underlying9 rfl (.inr ⟨_,_,_,rfl,rfl,rfl⟩) (.inr ⟨_,_,_,rfl,rfl,rfl⟩) (by omega) (by omega) rfl) (Lc9 rfl rfl (by decide) (OpT_buildOnes (r:=102) [sV ((l.drop x.2.1).take (x.1 - x.2.1))] rfl rfl Tryz.runUnderlying63 Tryz.sizeOf9 Tryz.zeroValue9 rfl rfl (by decide) rfl (by simp [Value.cells]) (fun v47 => (Lc9 rfl rfl (by decide) (Oa9 (r:=101) (r2:=102) rfl Tryz.underlying63 TI.hi9 TI.hz9 TI.hs9 TI.hby9 TI.hzs9 (by decide) rfl rfl rfl rfl (fun _ h => rp9 h) (ss_one [_]) (by unfold maxLen; omega) (by omega) (fun v48 => ?_)))))))))))
      refine (G9 rfl rfl (N9 (X9 ?_)))
      refine R9 (M9 rfl rfl (L9 rfl (Pn9 rfl rfl rfl (run_add _ _ _ _ _ (by omega))) (G9 rfl rfl (N9 (X_block (X9 (R9 (M9 rfl rfl (L9 rfl (Pn9 rfl rfl rfl (run_add _ _ _ _ _ (by omega))) (G9 rfl rfl (N9 ?_)))))))))))
      exact Xr9 (x.1 + 1,x.1 + 1,v48,x.2.2.2 ++ [(l.drop x.2.1).take (x.1 - x.2.1)]) (RS_cut hx hle hc41) (by dsimp only; omega) ⟨rfl,rfl,rfl,rfl,trivial⟩ ⟨rfl,look_eq rfl (rowS_of (x.2.2.2 ++ [(l.drop x.2.1).take (x.1 - x.2.1)]) (by simp) (by rw [ss_append]; rfl)),trivial⟩
     ·
      refine K9 (X_block (X9 ?_))
      refine R9 (M9 rfl rfl (L9 rfl (Pn9 rfl rfl rfl (run_add _ _ _ _ _ (by omega))) (G9 rfl rfl (N9 ?_))))
      exact Xr9 (x.1 + 1,x.2.1,x.2.2.1,x.2.2.2) (RS_go hx hle hc41) (by dsimp only; omega) (a9 rfl) (a9 rfl)
    ·
     have hgt : ¬ x.1 ≤ l.length:=by have:=of_decide_eq_false hc29; omega
     have hacc2 : x.2.2.2 = splitL (l.drop 1):=RS_end hx hgt
     have hsl:=splitL_len (l.drop 1)
     rw [List.length_drop] at hsl
     rw [hacc2]
     refine W_exit (X_then_exit (X_then_exit (X_block_exit (X9 ?_))))
     refine Q9 (Q9 (R9 (M9 rfl rfl (L9 rfl (Pl9 (r:=101) rfl Tryz.runUnderlying63 rfl rfl rowS_rd) (L9 rfl (Pn9 rfl rfl rfl (run_gtr _ _ _ _ _ _)) (N9 (X9 ?_)))))))
     refine C9 rfl (fun hc53 => ?_) (fun hc53 => ?_)
     ·
      have h5:=of_decide_eq_true hc53
      refine Q9 (R9 (G9 rfl rfl (G9 rfl rfl (N9 (X9 ?_)))))
      refine W_ret (X_then_ret ?_)
      have ha : allN (splitL (l.drop 1)) = 4:=by unfold allN; rw [if_pos (by omega)]
      have hs : splitN l = ([],4):=by unfold splitN; rw [if_neg h1,if_neg (by simp [hnp]),ha]; rfl
      refine X_nilRow 9900 9 1 ?_
      exact Xq9 [9900] (Ps:=[_]) (res2 Tryz.results33 rfl rfl) rfl (by decide) ⟨_,by rw [hs] <;> rfl,by rw [hs] <;> rfl⟩
     ·
      have h5:=of_decide_eq_false hc53
      refine K9 (X9 ?_)
      refine Q9 (Q9 (R9 (G9 rfl rfl (N9 (X9 ?_)))))
      refine W_block ?_
      refine W_loop (α:=Nat) (fun i => [(4,x.2.2.1),(7,.int .i64 (i : Int))]) (fun i => [(0,F),(101,rowS 9 x.2.2.1 (splitL (l.drop 1)))]) (fun i => i ≤ (splitL (l.drop 1)).length ∧ firstBad ((splitL (l.drop 1)).drop i) = firstBad (splitL (l.drop 1))) (fun i => (splitL (l.drop 1)).length - i) (0) ⟨Nat.zero_le _,rfl⟩ (a9 rfl) (a9 rfl) (fun k hk => ?_)
      obtain ⟨hkl,hfb⟩:=hk
      refine Q9 (Q9 (R9 (M9 rfl rfl (M9 rfl rfl (L9 rfl (Pl9 (r:=101) rfl Tryz.runUnderlying63 rfl rfl rowS_rd) (L9 rfl (Pn9 rfl rfl rfl (run_lss _ _ _ _ _ _)) (N9 (X9 ?_))))))))
      refine C9 rfl (fun hc57 => ?_) (fun hc57 => ?_)
      ·
       have hlt : k < (splitL (l.drop 1)).length:=by have:=of_decide_eq_true hc57; omega
       refine K9 (X9 ?_)
       refine Q9 ?_
       refine W_block ?_
       refine Q9 (R9 (M9 rfl rfl (M9 rfl rfl (L9 rfl (Pu_idxS1 (r:=101) rfl Tryz.runUnderlying63 Tryz.sizeOf9 rfl rfl rfl rowS_rd (by omega)) (L9 rfl (Py9 (r:=101) rfl Tryz.isAgg9 rfl rfl rowS_rd (ss_at hlt)) (Lc9 rfl rfl (by decide) (Oc9 200 [0,101] [] rfl Tryz.call50 rfl rfl rfl (by decide) (by decide) (check_rspec ((splitL (l.drop 1)).getD k []) (by have:=splitL_mem (getD_mem hlt); simp only [List.length_drop] at this; omega) _) (fun v64 Ps64 hR64 => ?_))))))))
       obtain ⟨rfl,rfl⟩:=hR64
       refine (L9 rfl (Pn9 rfl rfl rfl (run_neq _ _ _ _ _ _)) (N9 (X9 ?_)))
       refine C9 rfl (fun hc65 => ?_) (fun hc65 => ?_)
       ·
        have hbad : ¬ (checkN ((splitL (l.drop 1)).getD k []) : Int) = 0:=by simpa using hc65
        refine Q9 (R9 (M9 rfl rfl (M9 rfl rfl (L9 rfl (Pu_idxS1 (r:=101) rfl Tryz.runUnderlying63 Tryz.sizeOf9 rfl rfl rfl rowS_rd (by omega)) (L9 rfl (Py9 (r:=101) rfl Tryz.isAgg9 rfl rfl rowS_rd (ss_at hlt)) (Lc9 rfl rfl (by decide) (Oc9 300 [0,101] [] rfl Tryz.call50 rfl rfl rfl (by decide) (by decide) (check_rspec ((splitL (l.drop 1)).getD k []) (by have:=splitL_mem (getD_mem hlt); simp only [List.length_drop] at this; omega) _) (fun v70 Ps70 hR70 => ?_))))))))
        obtain ⟨rfl,rfl⟩:=hR70
        refine (G9 rfl rfl (G9 rfl rfl (N9 (X9 ?_))))
        refine W_ret (X_block_ret (X_then_ret (X_then_ret (X_block_ret (X_then_ret ?_)))))
        have ha : allN (splitL (l.drop 1)) = checkN ((splitL (l.drop 1)).getD k []):=by unfold allN; rw [if_neg (by omega),← hfb,firstBad_bad hlt hbad]
        have hs : splitN l = ([],checkN ((splitL (l.drop 1)).getD k [])):=by unfold splitN; rw [if_neg h1,if_neg (by simp [hnp]),ha,if_pos (by omega)]
        refine X_nilRow 9900 9 1 ?_
        exact Xq9 [9900] (Ps:=[_]) (res2 Tryz.results33 rfl rfl) rfl (by decide) ⟨_,by rw [hs] <;> rfl,by rw [hs] <;> rfl⟩
       ·
        have hgood : (checkN ((splitL (l.drop 1)).getD k []) : Int) = 0:=by simpa using hc65
        refine K9 (X_block (X9 ?_))
        refine R9 (M9 rfl rfl (L9 rfl (Pn9 rfl rfl rfl (run_add _ _ _ _ _ (by omega))) (G9 rfl rfl (N9 ?_))))
        exact Xr9 (k + 1) ⟨hlt,by rw [← hfb,firstBad_good hlt hgood]⟩ (by omega) (a9 rfl) (a9 rfl)
      ·
       have hge : (splitL (l.drop 1)).length ≤ k:=by have:=of_decide_eq_false hc57; omega
       refine W_exit (X_then_exit (X_then_exit (X_block_exit (X9 ?_))))
       refine Q9 (R9 (M9 rfl rfl (G9 rfl rfl (G9 rfl rfl (N9 (X9 ?_))))))
       refine W_ret ?_
       have ha : allN (splitL (l.drop 1)) = 0:=by unfold allN; rw [if_neg (by omega),← hfb,firstBad_end hge]
       have hs : splitN l = (splitL (l.drop 1),0):=by unfold splitN; rw [if_neg h1,if_neg (by simp [hnp]),if_neg (fun hc => hc ha)]
       exact Xq9 [101] (Ps:=[_]) (res2 Tryz.results33 rfl rfl) rfl (by decide) ⟨_,by rw [hs] <;> rfl,by rw [hs]⟩
theorem join_rspec (v : Value) (ls : List (List UInt8)) (hlen : (jn ls).length < 140737488355328) (F : HP) (hF : ∀ h,F h → rdS v ls h) : CallsS Tryz.prog 27 #[v] F [] (fun r Ps => r = .tuple #[sV (joinN ls).1,.int .i64 ((joinN ls).2 : Int)] ∧ Ps = []):=by
 refine callsS_enter Tryz.func27 rfl Tryz.ntmps27 (by simp) (fun E => ?_)
 refine Q9 (R9 (G9 rfl rfl (G9 rfl rfl (N9 (X9 (Q9 (Q9 (R9 (M9 rfl rfl (L9 rfl (Pl9 (r:=0) rfl Tryz.runUnderlying63 rfl rfl hF) (L9 rfl (Pn9 rfl rfl rfl (run_gtr _ _ _ _ _ _)) (N9 (X9 ?_)))))))))))))
 refine C9 rfl (fun hc8 => ?_) (fun hc8 => ?_)
 ·
  have h5:=of_decide_eq_true hc8
  refine Q9 (R9 (G9 rfl rfl (G9 rfl rfl (N9 (X9 ?_)))))
  refine W_ret (X_then_ret ?_)
  have hs : joinN ls = ([],4):=by rw [joinN_eq,show allN ls = 4 by unfold allN; rw [if_pos (by omega)]]; rfl
  exact Xq9 [] (Ps:=[]) (res2 Tryz.results27 rfl rfl) rfl (by decide) ⟨by rw [hs] <;> rfl,rfl⟩
 ·
  have h5:=of_decide_eq_false hc8
  refine K9 (X9 ?_)
  refine Q9 (R9 (G9 rfl rfl (N9 (X9 (Q9 (Q9 (R9 (G9 rfl rfl (N9 (X9 ?_))))))))))
  refine W_block ?_
  refine W_loop (α:=Nat) (fun i => [(0,v),(4,sV (jn (ls.take i))),(5,.int .i64 (i : Int))]) (fun i => [(0,F)]) (fun i => i ≤ ls.length ∧ firstBad (ls.drop i) = firstBad ls) (fun i => ls.length - i) (0) ⟨Nat.zero_le _,rfl⟩ (a9 rfl) ⟨rfl,trivial⟩ (fun x hx => ?_)
  obtain ⟨hkl,hfb⟩:=hx
  refine Q9 (Q9 (R9 (M9 rfl rfl (M9 rfl rfl (L9 rfl (Pl9 (r:=0) rfl Tryz.runUnderlying63 rfl rfl hF) (L9 rfl (Pn9 rfl rfl rfl (run_lss _ _ _ _ _ _)) (N9 (X9 ?_))))))))
  refine C9 rfl (fun hc12 => ?_) (fun hc12 => ?_)
  ·
   have hlt : x < ls.length:=by have:=of_decide_eq_true hc12; omega
   have hmm:=jn_mem (getD_mem hlt)
   have hj1:=jn_le ls (x + 1)
   rw [jn_succ hlt] at hj1
   simp only [List.length_append,List.length_cons,List.length_nil] at hj1
   refine K9 (X9 ?_)
   refine Q9 ?_
   refine W_block ?_
   refine Q9 (Q9 (R9 (M9 rfl rfl (M9 rfl rfl (L9 rfl (Pu_idxS1 (r:=0) rfl Tryz.runUnderlying63 Tryz.sizeOf9 rfl rfl rfl hF (by omega)) (L9 rfl (Py9 (r:=0) rfl Tryz.isAgg9 rfl rfl hF (ss_at hlt)) (Lc9 rfl rfl (by decide) (Oc9 200 [0] [] rfl Tryz.call50 rfl rfl rfl (by decide) (by decide) (check_rspec (ls.getD x []) (by omega) _) (fun v19 Ps19 hR19 => ?_)))))))))
   obtain ⟨rfl,rfl⟩:=hR19
   refine (L9 rfl (Pn9 rfl rfl rfl (run_neq _ _ _ _ _ _)) (N9 (X9 ?_)))
   refine C9 rfl (fun hc20 => ?_) (fun hc20 => ?_)
   ·
    have hbad : ¬ (checkN (ls.getD x []) : Int) = 0:=by simpa using hc20
    refine Q9 (R9 (M9 rfl rfl (M9 rfl rfl (L9 rfl (Pu_idxS1 (r:=0) rfl Tryz.runUnderlying63 Tryz.sizeOf9 rfl rfl rfl hF (by omega)) (L9 rfl (Py9 (r:=0) rfl Tryz.isAgg9 rfl rfl hF (ss_at hlt)) (Lc9 rfl rfl (by decide) (Oc9 300 [0] [] rfl Tryz.call50 rfl rfl rfl (by decide) (by decide) (check_rspec (ls.getD x []) (by omega) _) (fun v25 Ps25 hR25 => ?_))))))))
    obtain ⟨rfl,rfl⟩:=hR25
    refine (G9 rfl rfl (G9 rfl rfl (N9 (X9 ?_))))
    refine W_ret (X_then_ret (X_block_ret (X_then_ret (X_then_ret (X_block_ret (X_then_ret ?_))))))
    have hs : joinN ls = ([],checkN (ls.getD x [])):=by rw [joinN_eq,show allN ls = checkN (ls.getD x []) by unfold allN; rw [if_neg (by omega),← hfb,firstBad_bad hlt hbad],if_pos (by omega)]
    exact Xq9 [] (Ps:=[]) (res2 Tryz.results27 rfl rfl) rfl (by decide) ⟨by rw [hs] <;> rfl,rfl⟩
   ·
    have hgood : (checkN (ls.getD x []) : Int) = 0:=by simpa using hc20
    refine K9 (X9 ?_)
    refine R9 (M9 rfl rfl (L9 rfl (Pn9 rfl rfl rfl (run_addL _ _ _ _ _ (by simp only [List.length_cons,List.length_nil]; omega))) (M9 rfl rfl (M9 rfl rfl (L9 rfl (Pu_idxS1 (r:=0) rfl Tryz.runUnderlying63 Tryz.sizeOf9 rfl rfl rfl hF (by omega)) (L9 rfl (Py9 (r:=0) rfl Tryz.isAgg9 rfl rfl hF (ss_at hlt)) (L9 rfl (Pn9 rfl rfl rfl (run_addL _ _ _ _ _ (by simp only [List.length_append,List.length_cons,List.length_nil,Int.toNat_natCast]; omega))) (G9 rfl rfl (N9 (X_block (X9 (R9 (M9 rfl rfl (L9 rfl (Pn9 rfl rfl rfl (run_add _ _ _ _ _ (by omega))) (G9 rfl rfl (N9 ?_))))))))))))))))
    exact Xr9 (x + 1) ⟨hlt,by rw [← hfb,firstBad_good hlt hgood]⟩ (by omega) ⟨rfl,congrArg some (by rw [jn_succ hlt] <;> rfl),rfl,trivial⟩ ⟨rfl,trivial⟩
  ·
   have hge : ls.length ≤ x:=by have:=of_decide_eq_false hc12; omega
   rw [List.take_of_length_le hge]
   refine W_exit (X_then_exit (X_then_exit (X_block_exit (X9 ?_))))
   refine Q9 (Q9 (R9 (M9 rfl rfl (L9 rfl (Pn9 rfl rfl rfl (run_strEq _ _ _ _ _)) (N9 (X9 ?_))))))
   refine C9 rfl (fun hc34 => ?_) (fun hc34 => ?_)
   ·
    have hj : jn ls = []:=by simpa using hc34
    refine Q9 (R9 (G9 rfl rfl (G9 rfl rfl (N9 (X9 ?_)))))
    refine W_ret (X_then_ret ?_)
    have hs : joinN ls = ([47],0):=by rw [joinN_eq,show allN ls = 0 by unfold allN; rw [if_neg (by omega),← hfb,firstBad_end hge],if_neg (by omega),if_pos hj]
    exact Xq9 [] (Ps:=[]) (res2 Tryz.results27 rfl rfl) rfl (by decide) ⟨by rw [hs] <;> rfl,rfl⟩
   ·
    have hj : ¬ jn ls = []:=by simpa using hc34
    refine K9 (X9 ?_)
    refine Q9 (R9 (M9 rfl rfl (G9 rfl rfl (G9 rfl rfl (N9 (X9 ?_))))))
    refine W_ret ?_
    have hs : joinN ls = (jn ls,0):=by rw [joinN_eq,show allN ls = 0 by unfold allN; rw [if_neg (by omega),← hfb,firstBad_end hge],if_neg (by omega),if_neg hj]
    exact Xq9 [] (Ps:=[]) (res2 Tryz.results27 rfl rfl) rfl (by decide) ⟨by rw [hs] <;> rfl,rfl⟩
end Go.Proofs.YthkdkmaacjpneaaGreatDoor
namespace Go.Proofs.YthkdkmaacjpneaaGreatDoor
open Go.RowKit
section
variable {κ : Type} [DecidableEq κ]
def findG (k : κ) : List (κ × Value) → Nat → Option (Nat × Value)
  | [],_ => none
  | p :: es,i => if k = p.1 then some (i,p.2) else findG k es (i + 1)
def lookQ (k : κ) : List (κ × Value) → Option Value
  | [] => none
  | p :: es => if k = p.1 then some p.2 else lookQ k es
def setQ (k : κ) (v : Value) : List (κ × Value) → List (κ × Value)
  | [] => []
  | p :: es => if k = p.1 then (k,v) :: es else p :: setQ k v es
def delQ (k : κ) : List (κ × Value) → List (κ × Value)
  | [] => []
  | p :: es => if k = p.1 then es else p :: delQ k es
theorem findG_none (k : κ) : ∀ (es : List (κ × Value)) (i : Nat),findG k es i = none → lookQ k es = none ∧ delQ k es = es ∧ ∀ p ∈ es,k ≠ p.1
  | [],_,_ => ⟨rfl,rfl,by simp⟩
  | p :: es,i,h => by
    rw [findG] at h
    by_cases hk : k = p.1
    · simp [hk] at h
    · rw [if_neg hk] at h
      obtain ⟨h1,h2,h3⟩:=findG_none k es (i + 1) h
      refine ⟨by rw [lookQ,if_neg hk,h1],by rw [delQ,if_neg hk,h2],fun q hq => ?_⟩
      rcases List.mem_cons.1 hq with rfl | hq
      · exact hk
      · exact h3 q hq
theorem findG_some (k : κ) : ∀ (es : List (κ × Value)) (i j : Nat) (v : Value),findG k es i = some (j,v) → i ≤ j ∧ lookQ k es = some v ∧ es[j - i]? = some (k,v) ∧ delQ k es = es.eraseIdx (j - i) ∧ ∀ v',setQ k v' es = es.set (j - i) (k,v')
  | [],_,_,_,h => by simp [findG] at h
  | p :: es,i,j,v,h => by
    rw [findG] at h
    by_cases hk : k = p.1
    · rw [if_pos hk] at h
      injection h with h
      injection h with h1 h2
      subst h1; subst h2
      refine ⟨Nat.le_refl _,by rw [lookQ,if_pos hk],?_,?_,fun v' => ?_⟩
      · rw [Nat.sub_self,List.getElem?_cons_zero,hk]
      · rw [Nat.sub_self,delQ,if_pos hk]; rfl
      · rw [Nat.sub_self,setQ,if_pos hk]; rfl
    · rw [if_neg hk] at h
      obtain ⟨h1,h2,h3,h4,h5⟩:=findG_some k es (i + 1) j v h
      have e : j - i = (j - (i + 1)) + 1:=by omega
      refine ⟨by omega,by rw [lookQ,if_neg hk,h2],?_,?_,fun v' => ?_⟩
      · rw [e,List.getElem?_cons_succ,h3]
      · rw [e,delQ,if_neg hk,h4]; rfl
      · rw [e,setQ,if_neg hk,h5 v']; rfl
structure KeyT (P : Program) (kt : TypeId) (enc : κ → Value) (ok : κ → Prop) : Prop where
  check : ∀ em k w,ok k → (Instr.checkKey em 10000 kt (enc k)).run P w = .ok () w
  find : ∀ k w (es : List (κ × Value)) (a : List MapEntry),ok k → (∀ p ∈ es,ok p.1) → a.map (fun e => (e.key,e.val)) = es.map (fun p => (enc p.1,p.2)) → (Instr.findKey kt (enc k) a).run P w = .ok (findG k es 0) w
  inj : ∀ a b,enc a = enc b → a = b
  stays : ∀ k w,(Instr.keyThatStays (enc k) (enc k)).run P w = .ok (enc k) w
def kvs (enc : κ → Value) (es : List (κ × Value)) : List (Value × Value):=es.map fun p => (enc p.1,p.2)
def ekv (l : List MapEntry) : List (Value × Value):=l.map fun e => (e.key,e.val)
abbrev It (κ : Type):=Nat × List (κ × Value) × Option (κ × Value)
def mapQ (enc : κ → Value) (ok : κ → Prop) (g : Nat) (es : List (κ × Value)) (it : Option (It κ)) : HP:=fun h => (∀ p ∈ es,ok p.1) ∧ ∃ a clk,h g = some (.map a clk) ∧ MapKept.Stamped a clk ∧ ekv a.toList = kvs enc es ∧
  match it with
  | none => True
  | some (r,left,cur) => ∃ seen : Array Nat,h r = some (.mapIter (some g) clk seen clk) ∧ r ≠ g ∧ ekv (a.toList.filter fun e => !seen.contains e.born) = kvs enc left ∧
    match cur with
    | none => True
    | some p => ∃ (seen0 : Array Nat) (e : MapEntry),e ∈ a.toList ∧ seen = seen0.push e.born ∧ (e.key,e.val) = (enc p.1,p.2)
variable {P : Program} {E : Env} {n : Nat} {K : Slots} {L : Res} {o : Oper} {C : Value → Res → Prop} {kt mt et : TypeId} {enc : κ → Value} {ok : κ → Prop}
theorem mapQ_none {g : Nat} {es : List (κ × Value)} {it : Option (It κ)} {h : Hlt} (hp : mapQ enc ok g es it h) : mapQ enc ok g es none h:=by
  obtain ⟨h1,a,clk,h2,h3,h4,_⟩:=hp
  exact ⟨h1,a,clk,h2,h3,h4,trivial⟩
theorem mapQ_uncur {g r : Nat} {es left : List (κ × Value)} {cur : Option (κ × Value)} {h : Hlt} (hp : mapQ enc ok g es (some (r,left,cur)) h) : mapQ enc ok g es (some (r,left,none)) h:=by
  obtain ⟨h1,a,clk,h2,h3,h4,seen,s1,s2,s3,_⟩:=hp
  exact ⟨h1,a,clk,h2,h3,h4,seen,s1,s2,s3,trivial⟩
theorem run_lookupQ (T : KeyT P kt enc ok) (hm : P.underlying mt = some (.map kt et)) {z : Value} (hz : ∀ w,(zeroValue et).run P w = .ok z w)
    {g : Nat} {es : List (κ × Value)} {it : Option (It κ)} {h : Hlt} {w : World} (hp : mapQ enc ok g es it h) (hi : In h w) (k : κ) (hl : ok k) (okb : Bool) :
    (Instr.lookup mt (.map (some g)) (enc k) okb).run P w = .ok (if okb then .tuple #[(lookQ k es).getD z,.bool (lookQ k es).isSome] else (lookQ k es).getD z) w:=by
  obtain ⟨h1,a,clk,h2,_,h3,_⟩:=hp
  have hg:=hi _ _ h2
  unfold Instr.lookup
  simp only [Sem.run_bind,run_underlying hm,Result.andThen_ok,MapKept.run_getObj_map hg,Sem.run_pure,T.check _ k _ hl,T.find k w es a.toList hl h1 h3]
  cases hf : findG k es 0 with
  | none => rw [(findG_none k es 0 hf).1]; simp [hz]
  | some jv =>
    obtain ⟨j,v⟩:=jv
    rw [(findG_some k es 0 j v hf).2.1]
    cases okb <;> simp
theorem Pu_lookupQ {r g : Nat} {x y : Operand} {k : κ} {es : List (κ × Value)} {it : Option (It κ)} {z : Value} (T : KeyT P kt enc ok) (ho : o.op = .lookup mt x y false) (hm : P.underlying mt = some (.map kt et)) (hz : ∀ w,(zeroValue et).run P w = .ok z w)
    (hx : evK K x = some (.map (some g))) (hy : evK K y = some (enc k)) (hl : ok k) (hr : look L r = some (mapQ enc ok g es it)) : Pure P E n o K L ((lookQ k es).getD z):=fun a w hA hS => by
  obtain ⟨h,q1,q2⟩:=hS.read hr
  have:=run_lookupQ T hm hz q1 q2 k hl false
  simp only [Bool.false_eq_true,if_false] at this
  simp only [execOp,ho,hA.eval hx,hA.eval hy,Sem.run_bind,this]
  rfl
theorem Pu_lookupOkQ {r g : Nat} {x y : Operand} {k : κ} {es : List (κ × Value)} {it : Option (It κ)} {z : Value} (T : KeyT P kt enc ok) (ho : o.op = .lookup mt x y true) (hm : P.underlying mt = some (.map kt et)) (hz : ∀ w,(zeroValue et).run P w = .ok z w)
    (hx : evK K x = some (.map (some g))) (hy : evK K y = some (enc k)) (hl : ok k) (hr : look L r = some (mapQ enc ok g es it)) : Pure P E n o K L (.tuple #[(lookQ k es).getD z,.bool (lookQ k es).isSome]):=fun a w hA hS => by
  obtain ⟨h,q1,q2⟩:=hS.read hr
  have:=run_lookupQ T hm hz q1 q2 k hl true
  simp only [if_true] at this
  simp only [execOp,ho,hA.eval hx,hA.eval hy,Sem.run_bind,this]
  rfl
theorem OpT_makeMapQ {r : Nat} (enc : κ → Value) (ok : κ → Prop) (ho : o.op = .makeMap mt none) (k : ∀ g,C (.map (some g)) ((r,mapQ enc ok g [] none) :: L)) : OpT P E n o K L C:=fun a w Kc Q hA hS hK => by
  have hrun:=run_makeMap (P:=P) mt w
  unfold Oper.wp execOp
  simp only [ho,Option.map_none,Sem.run_bind,hrun,Result.andThen_ok,Sem.run_pure]
  refine hK _ _ _ (k _) (hS.new r ?_ (fun g => if g = w.heap.size then some (.map #[] 0) else none) ?_ ?_ ?_)
  · exact ⟨rfl,rfl,rfl,by simp,fun k hk _ => heap_alloc_old w _ hk⟩
  · exact ⟨fun x hx => by simp at hx,#[],0,by simp,MapKept.stamped_empty 0,rfl,trivial⟩
  · intro g o h
    by_cases hg : g = w.heap.size
    · subst hg
      simp at h
      subst h
      exact heap_alloc_new w _
    · simp [hg] at h
  · intro g hg
    by_cases hg' : g = w.heap.size
    · omega
    · simp [hg'] at hg
theorem mapQ_step {w : World} {r g : Nat} {Pm P' : HP} (hS : Sat E L w) (hr : look L r = some Pm) (a' : Array MapEntry) (clk' : Nat) (hg : ∀ h,Pm h → (h g).isSome = true)
    {a : Array MapEntry} {clk : Nat} (hw : w.heap[g]? = some (.map a clk)) (H : ∀ h,Pm h → In h w → P' (fun q => if q = g then some (.map a' clk') else h q)) : Sat E ((r,P') :: L) { w with heap:=w.heap.setIfInBounds g (.map a' clk') } :=
  hS.step hr fun h hp hin => by
    obtain ⟨s1,s2⟩:=setObj_step (.map a' clk') hw
    refine ⟨[g],_,by simpa using hg h hp,s1,H h hp hin,fun q o ho => ?_,fun q hq => ?_⟩
    · by_cases hqg : q = g
      · subst hqg; simp at ho; subst ho; exact s2
      · simp [hqg] at ho
        have:=hin q o ho
        show (w.heap.setIfInBounds g _)[q]? = some o
        rw [Array.getElem?_setIfInBounds_ne (Ne.symm hqg)]
        exact this
    · by_cases hqg : q = g
      · subst hqg; exact .inl (hg h hp)
      · simp [hqg] at hq; exact .inl hq
theorem mapQ_dom {g : Nat} {es : List (κ × Value)} {it : Option (It κ)} : ∀ h,mapQ enc ok g es it h → (h g).isSome = true:=fun h ⟨_,a,clk,h2,_⟩ => by simp [h2]
theorem ekv_get {a : Array MapEntry} {es : List (κ × Value)} (h : ekv a.toList = kvs enc es) {j : Nat} {k : κ} {v : Value} (hj : es[j]? = some (k,v)) : ∃ e,a[j]? = some e ∧ e.key = enc k ∧ e.val = v:=by
  have h1 : (kvs enc es)[j]? = some (enc k,v):=by simp [kvs,hj]
  rw [← h] at h1
  simp only [ekv,List.getElem?_map,Array.getElem?_toList] at h1
  cases ha : a[j]? with
  | none => rw [ha] at h1; cases h1
  | some e =>
    rw [ha] at h1
    simp at h1
    exact ⟨e,rfl,h1.1,h1.2⟩
theorem OpT_mapAddQ {r g : Nat} {x y z : Operand} {k : κ} {v : Value} {es : List (κ × Value)} (T : KeyT P kt enc ok) (ho : o.op = .mapUpdate mt x y z) (hm : P.underlying mt = some (.map kt et))
    (hx : evK K x = some (.map (some g))) (hy : evK K y = some (enc k)) (hl : ok k) (hz : evK K z = some v) (hr : look L r = some (mapQ enc ok g es none)) (hno : lookQ k es = none) (hc : C undef ((r,mapQ enc ok g (es ++ [(k,v)]) none) :: L)) : OpT P E n o K L C:=fun a w Kc Q hA hS hK => by
  obtain ⟨h,q1,q2⟩:=hS.read hr
  obtain ⟨h1,b,clk,h2,hst,h3,_⟩:=q1
  have hg:=q2 _ _ h2
  have hf : findG k es 0 = none:=by
    cases hf : findG k es 0 with
    | none => rfl
    | some jv => rw [(findG_some k es 0 jv.1 jv.2 hf).2.1] at hno; cases hno
  have hrun : (Instr.mapUpdate mt (.map (some g)) (enc k) v).run P w = .ok () { w with heap:=w.heap.setIfInBounds g (.map (b.push { key:=enc k,val:=v,born:=clk }) (clk + 1)) }:=by
    unfold Instr.mapUpdate
    simp only [Sem.run_bind,run_underlying hm,Result.andThen_ok,MapKept.run_getObj_map hg,Sem.run_pure,T.check _ k _ hl,T.find k w es b.toList hl h1 h3,hf,MapKept.run_setObj_map _ hg]
  unfold Oper.wp execOp
  simp only [ho,hA.eval hx,hA.eval hy,hA.eval hz,Sem.run_bind,hrun,Result.andThen_ok,Sem.run_pure]
  refine hK _ _ _ hc (mapQ_step hS hr _ _ mapQ_dom hg fun h' hp' hin' => ?_)
  have hx':=(findG_none k es 0 hf).2.2
  refine ⟨?_,b.push { key:=enc k,val:=v,born:=clk },clk + 1,if_pos rfl,MapKept.stamped_push hst fun x hx => ?_,?_,trivial⟩
  · intro p hp
    rcases List.mem_append.1 hp with hp | hp
    · exact h1 p hp
    · rw [List.mem_singleton.1 hp]; exact hl
  · intro hke
    have : (x.key,x.val) ∈ kvs enc es:=by rw [← h3]; exact List.mem_map.2 ⟨x,hx,rfl⟩
    obtain ⟨p,hp,hpe⟩:=List.mem_map.1 this
    injection hpe with e1 e2
    exact hx' p hp (T.inj _ _ (by rw [e1,hke]))
  · simp only [ekv,kvs,Array.toList_push,List.map_append,List.map_cons,List.map_nil]
    exact congrArg (· ++ [(enc k,v)]) h3
theorem map_modify_set {α β : Type} (f : α → β) (m : α → α) (b : β) : ∀ (l : List α) (i : Nat),(∀ x,f (m x) = b) → (l.modify i m).map f = (l.map f).set i b
  | [],i,_ => by simp
  | x :: l,0,hb => by simp [hb]
  | x :: l,i + 1,hb => by simp [map_modify_set f m b l i hb]
theorem OpT_mapSetQ {r g : Nat} {x y z : Operand} {k : κ} {v : Value} {es : List (κ × Value)} (T : KeyT P kt enc ok) (ho : o.op = .mapUpdate mt x y z) (hm : P.underlying mt = some (.map kt et))
    (hx : evK K x = some (.map (some g))) (hy : evK K y = some (enc k)) (hl : ok k) (hz : evK K z = some v) (hr : look L r = some (mapQ enc ok g es none)) (hno : (lookQ k es).isSome = true) (hc : C undef ((r,mapQ enc ok g (setQ k v es) none) :: L)) : OpT P E n o K L C:=fun a w Kc Q hA hS hK => by
  obtain ⟨h,q1,q2⟩:=hS.read hr
  obtain ⟨h1,b,clk,h2,hst,h3,_⟩:=q1
  have hg:=q2 _ _ h2
  cases hf : findG k es 0 with
  | none => rw [(findG_none k es 0 hf).1] at hno; cases hno
  | some jv =>
    obtain ⟨j,u⟩:=jv
    obtain ⟨_,_,f3,_,f5⟩:=findG_some k es 0 j u hf
    rw [Nat.sub_zero] at f3
    have f5:=f5 v
    rw [Nat.sub_zero] at f5
    obtain ⟨e,he,hek,hev⟩:=ekv_get h3 f3
    have hrun : (Instr.mapUpdate mt (.map (some g)) (enc k) v).run P w = .ok () { w with heap:=w.heap.setIfInBounds g (.map (b.modify j fun e => { e with key:=enc k,val:=v }) clk) }:=by
      unfold Instr.mapUpdate
      simp only [Sem.run_bind,run_underlying hm,Result.andThen_ok,MapKept.run_getObj_map hg,Sem.run_pure,T.check _ k _ hl,T.find k w es b.toList hl h1 h3,hf,he,Option.map_some,Option.getD_some,hek,T.stays,MapKept.run_setObj_map _ hg]
    unfold Oper.wp execOp
    simp only [ho,hA.eval hx,hA.eval hy,hA.eval hz,Sem.run_bind,hrun,Result.andThen_ok,Sem.run_pure]
    refine hK _ _ _ hc (mapQ_step hS hr _ _ mapQ_dom hg fun h' hp' hin' => ?_)
    refine ⟨?_,b.modify j fun e => { e with key:=enc k,val:=v },clk,if_pos rfl,MapKept.stamped_modify hst j _ (fun _ _ => rfl) (fun x hx hj => ?_),?_,trivial⟩
    · rw [f5]
      intro p hp
      rcases List.mem_or_eq_of_mem_set hp with hp | hp
      · exact h1 p hp
      · rw [hp]; exact hl
    · rw [he] at hj; injection hj with hj; rw [← hj]; exact hek.symm
    · rw [f5]
      simp only [ekv,kvs,Array.toList_modify,List.map_set]
      rw [map_modify_set (fun e : MapEntry => (e.key,e.val)) (fun e : MapEntry => { e with key:=enc k,val:=v }) (enc k,v) _ _ (fun x => rfl)]
      exact congrArg (fun l => List.set l j (enc k,v)) h3
def itDel (it : Option (It κ)) : Option (It κ):=it.map fun i => (i.1,i.2.1,none)
theorem OpT_rangeQ {r g : Nat} {x : Operand} {es : List (κ × Value)} (ho : o.op = .range mt x) (hm : P.underlying mt = some (.map kt et)) (hx : evK K x = some (.map (some g))) (hr : look L r = some (mapQ enc ok g es none))
    (hc : ∀ i,C (.pointer (some ⟨i,0,none⟩)) ((r,mapQ enc ok g es (some (i,es,none))) :: L)) : OpT P E n o K L C:=fun a w Kc Q hA hS hK => by
  obtain ⟨h,q1,q2⟩:=hS.read hr
  obtain ⟨h1,b,clk,h2,hst,h3,_⟩:=q1
  have hg:=q2 _ _ h2
  have hrun:=run_range_map w mt kt et g b clk hm hg
  unfold Oper.wp execOp
  simp only [ho,hA.eval hx,Sem.run_bind,hrun,Result.andThen_ok,Sem.run_pure]
  refine hK _ _ _ (hc _) (hS.step hr fun h' hp' hin' => ?_)
  have hlt:=lt_of_heap hg
  obtain ⟨_,a2,clk2,i2,_,_,_⟩:=hp'
  have:=hin' _ _ i2
  rw [hg] at this
  injection this with this
  injection this with this1 this2
  subst this1; subst this2
  refine ⟨[],fun q => if q = w.heap.size then some (.mapIter (some g) clk #[] clk) else h' q,by simp,⟨rfl,rfl,rfl,by simp,fun k hk _ => heap_alloc_old w _ hk⟩,?_,fun q o ho => ?_,fun q hq => ?_⟩
  · refine ⟨h1,b,clk,by simp [i2,Nat.ne_of_lt hlt],hst,h3,#[],by simp,by omega,?_,trivial⟩
    rw [List.filter_eq_self.2 (by simp)]
    exact h3
  · by_cases hq : q = w.heap.size
    · subst hq; simp at ho; subst ho; exact heap_alloc_new w _
    · simp [hq] at ho
      have:=hin' q o ho
      rw [heap_alloc_old w _ (lt_of_heap this)]
      exact this
  · by_cases hq' : q = w.heap.size
    · exact .inr (by omega)
    · simp [hq'] at hq; exact .inl hq
theorem OpT_nextQ {r g i : Nat} {x : Operand} {es left : List (κ × Value)} {cur : Option (κ × Value)} (T : KeyT P kt enc ok) (ho : o.op = .next x false) (hx : evK K x = some (.pointer (some ⟨i,0,none⟩))) (hr : look L r = some (mapQ enc ok g es (some (i,left,cur))))
    (hend : left = [] → C (.tuple #[.bool false]) L) (hmore : ∀ p l',p ∈ es → left.Perm (p :: l') → C (.tuple #[.bool true,enc p.1,p.2]) ((r,mapQ enc ok g es (some (i,l',some p))) :: L)) : OpT P E n o K L C:=fun a w Kc Q hA hS hK => by
  obtain ⟨h,q1,q2⟩:=hS.read hr
  obtain ⟨h1,b,clk,h2,hst,h3,seen,s1,s2,s3,_⟩:=q1
  have hg:=q2 _ _ h2
  have hi:=q2 _ _ s1
  rcases run_next_at (P:=P) w o.type i g clk clk seen b clk hi hg hst.1 (Nat.le_refl _) with ⟨h0,hrun⟩ | ⟨e,he,w1,hw1,hrun⟩
  · unfold Oper.wp execOp
    simp only [ho,hA.eval hx,Sem.run_bind,hrun,Result.andThen_ok,Sem.run_pure]
    refine hK _ _ _ (hend ?_) hS
    have : (b.toList.filter fun e => !seen.contains e.born) = []:=by
      unfold leftOf at h0
      have h0 : (b.filter fun e => !seen.contains e.born).toList.length = 0:=by simpa using h0
      rw [Array.toList_filter] at h0
      exact List.length_eq_zero_iff.1 h0
    rw [this] at s3
    simp [ekv,kvs] at s3
    exact s3.symm ▸ rfl
  · have hel : e ∈ b.toList.filter fun e => !seen.contains e.born:=by
      unfold leftOf at he
      rw [Array.toList_filter] at he
      exact he
    obtain ⟨l1,l2,hl⟩:=List.append_of_mem hel
    have hmem:=List.mem_filter.1 hel
    -- what is to come
    have hk : kvs enc left = ekv l1 ++ (e.key,e.val) :: ekv l2:=by rw [← s3,hl]; simp [ekv]
    obtain ⟨p1,p2,hp12,hp1,hp2⟩:=List.map_eq_append_iff.1 (show left.map (fun p => (enc p.1,p.2)) = ekv l1 ++ (e.key,e.val) :: ekv l2 from hk)
    obtain ⟨p,p3,hp3,hpe,hp4⟩:=List.map_eq_cons_iff.1 hp2
    subst hp3; subst hp12
    injection hpe with hpk hpv
    have hpes : ∃ q ∈ es,enc q.1 = e.key ∧ q.2 = e.val:=by
      have : (e.key,e.val) ∈ kvs enc es:=by rw [← h3]; exact List.mem_map.2 ⟨e,hmem.1,rfl⟩
      obtain ⟨q,hq,hqe⟩:=List.mem_map.1 this
      injection hqe with e1 e2
      exact ⟨q,hq,e1,e2⟩
    have hfl : (b.toList.filter fun x => !(seen.push e.born).contains x.born) = l1 ++ l2:=by
      have hnd : (l1 ++ e :: l2).Pairwise (fun x y => x.born ≠ y.born):=by
        rw [← hl]
        have:=hst.2.1
        rw [List.Nodup,List.pairwise_map] at this
        exact this.sublist List.filter_sublist
      have hff : (b.toList.filter fun x => !(seen.push e.born).contains x.born) = (b.toList.filter fun e => !seen.contains e.born).filter fun x => !(x.born == e.born):=by
        rw [List.filter_filter]
        refine List.filter_congr fun x hx => ?_
        rw [contains_push]
        cases seen.contains x.born <;> cases x.born == e.born <;> rfl
      rw [hff,hl]
      rw [List.pairwise_append] at hnd
      obtain ⟨_,n2,n3⟩:=hnd
      have n2:=(List.pairwise_cons.1 n2).1
      rw [List.filter_append,List.filter_cons,List.filter_eq_self.2 (fun x hx => by simpa using n3 x hx e (by simp)),List.filter_eq_self.2 (fun x hx => by simpa using Ne.symm (n2 x hx))]
      simp
    unfold Oper.wp execOp
    simp only [ho,hA.eval hx,Sem.run_bind,hrun,Result.andThen_ok,Sem.run_pure]
    obtain ⟨q,hq1,hq2,hq3⟩:=hpes
    rw [← hpk,← hpv]
    have hpin : p ∈ es:=by
      have e1:=T.inj q.1 p.1 (by rw [hq2,hpk])
      have e2 : q = p:=Prod.ext e1 (by rw [hq3,hpv])
      exact e2 ▸ hq1
    refine hK _ _ _ (hmore p (p1 ++ p3) hpin List.perm_middle) (hS.step hr fun h' hp' hin' => ?_)
    obtain ⟨_,a2,clk2,i2,_,_,seen',i4,_⟩:=hp'
    have e2:=hin' _ _ i2
    have e3:=hin' _ _ i4
    rw [hg] at e2
    injection e2 with e2
    injection e2 with e21 e22
    subst e21; subst e22
    rw [hi] at e3
    injection e3 with e3
    injection e3 with _ _ e31 _
    subst e31
    have hi1 : w1.heap[i]? = some (.mapIter (some g) clk seen clk):=by rcases hw1 with rfl | rfl <;> exact hi
    have hset:=MapKept.heap_set (o':=.mapIter (some g) clk (seen.push e.born) clk) hi1
    refine ⟨[i],fun q => if q = i then some (.mapIter (some g) clk (seen.push e.born) clk) else h' q,by simp [i4],?_,?_,fun q o ho => ?_,fun q hq => ?_⟩
    · rcases hw1 with rfl | rfl
      · exact ⟨rfl,rfl,rfl,by simp [ChangeMaps.setBlock],fun k hk hkn => hset.2 k (by simpa using hkn)⟩
      · exact ⟨rfl,rfl,rfl,by simp [ChangeMaps.setBlock],fun k hk hkn => hset.2 k (by simpa using hkn)⟩
    · refine ⟨h1,b,clk,by simp [Ne.symm s2,i2],hst,h3,seen.push e.born,by simp,s2,?_,seen,e,hmem.1,rfl,by rw [hpk,hpv]⟩
      rw [hfl]
      show ekv (l1 ++ l2) = kvs enc (p1 ++ p3)
      rw [show kvs enc (p1 ++ p3) = kvs enc p1 ++ kvs enc p3 from List.map_append,show kvs enc p1 = ekv l1 from hp1,show kvs enc p3 = ekv l2 from hp4]
      exact List.map_append
    · by_cases hq : q = i
      · subst hq; simp at ho; subst ho; exact hset.1
      · simp [hq] at ho
        have:=hin' q o ho
        have hw1q : w1.heap[q]? = some o:=by rcases hw1 with rfl | rfl <;> exact this
        exact (hset.2 q hq).trans hw1q
    · by_cases hqi : q = i
      · subst hqi; exact .inl (by simp [i4])
      · simp [hqi] at hq; exact .inl hq
theorem Pu_entryQ {r g i : Nat} {x : Operand} {es left : List (κ × Value)} {p : κ × Value} (ho : o.op = .entry x) (hx : evK K x = some (.pointer (some ⟨i,0,none⟩))) (hr : look L r = some (mapQ enc ok g es (some (i,left,some p)))) : Pure P E n o K L (.tuple #[enc p.1,p.2]):=fun a w hA hS => by
  obtain ⟨h,q1,q2⟩:=hS.read hr
  obtain ⟨h1,b,clk,h2,hst,h3,seen,s1,s2,s3,seen0,e,he,hse,hep⟩:=q1
  subst hse
  have hrun:=run_entry_at (P:=P) w i g clk seen0 b clk e (q2 _ _ s1) (q2 _ _ h2) he hst.2.1
  injection hep with e1 e2
  simp only [execOp,ho,hA.eval hx,Sem.run_bind,hrun]
  rw [e1,e2]
  rfl
end
section
variable {P : Program} {kt bt : TypeId}
theorem findI_findG (k : List UInt8) : ∀ (es : List (List UInt8 × Value)) (i : Nat),findI k es i = findG k es i
  | [],_ => rfl
  | p :: es,i => by
    rw [findI,findG,findI_findG k es (i + 1)]
    by_cases h : k = p.1 <;> simp [h]
theorem idV_inj (a b : List UInt8) (h : idV a = idV b) : a = b:=by
  unfold idV at h
  injection h with h
  have h : a.map bv = b.map bv:=by simpa [bs] using h
  refine List.map_inj_right (f:=bv) (fun x y hxy => ?_) |>.1 h
  unfold bv at hxy
  injection hxy with _ hxy
  exact UInt8.toNat_inj.1 (by omega)
theorem keyT_id (hk : P.underlying kt = some (.array 32 bt)) (hb : P.underlying bt = some (.int .u8)) (hsz : ∀ w,(sizeOf bt).run P w = .ok 1 w) : KeyT P kt idV (fun k => k.length = 32) where
  check em k w h:=run_checkId hk hb hsz em k h w
  find k w es a hl ho ha:=by
    rw [← findI_findG]
    exact run_findKeyId hk hb hsz k hl w es a (fun x hx => by obtain ⟨p,hp,rfl⟩:=List.mem_map.1 hx; exact ho p hp) ha
  inj:=idV_inj
  stays k w:=by
    have : Instr.sameBits 10000 (idV k) (idV k) = true:=by
      rw [show (10000 : Nat) = 9999 + 1 from rfl,idV,Instr.sameBits]
      simp only [beq_self_eq_true,Bool.true_and,List.all_eq_true]
      intro p hp
      obtain ⟨x,y⟩:=p
      have hxy:=List.of_mem_zip hp
      have he : ∀ (l : List Value) (p : Value × Value),p ∈ l.zip l → p.1 = p.2:=by
        intro l
        induction l with
        | nil => intro p hp; simp at hp
        | cons u l ih =>
          intro p hp
          rw [List.zip_cons_cons] at hp
          rcases List.mem_cons.1 hp with rfl | hp
          · rfl
          · exact ih p hp
      have:=he _ _ hp
      simp only at this
      subst this
      have : x ∈ bs k:=by simpa using hxy.1
      obtain ⟨u,hu,rfl⟩:=List.mem_map.1 this
      simp [bv,Instr.sameBits]
    simp [Instr.keyThatStays,this]
end
theorem evL_all {K : Slots} {a : Act} {n : Nat} (hA : Agr n K a) : ∀ {xs : List Operand} {vs : List Value},evL K xs = some vs → xs.map a.eval = vs
  | [],vs,h => by simp [evL] at h; subst h; rfl
  | x :: xs,vs,h => by
    rw [evL] at h
    cases hx : evK K x with
    | none => simp [hx] at h
    | some v =>
      cases hl : evL K xs with
      | none => simp [hx,hl] at h
      | some l =>
        simp [hx,hl] at h
        subst h
        rw [List.map_cons,hA.eval hx,evL_all hA hl]
theorem Pu_makeFunc {P : Program} {E : Env} {n : Nat} {K : Slots} {L : Res} {o : Oper} {f : FuncId} {xs : List Operand} {vs : List Value} (ho : o.op = .makeFunc (.func f) #[] xs.toArray) (hx : evL K xs = some vs) : Pure P E n o K L (.func (.func f) #[] vs.toArray):=fun a w hA hS => by
  have:=evL_all hA hx
  simp only [execOp,ho]
  simp [this,Sem.run_bind,Instr.makeFunc,Result.andThen]
open Go.RowKit
def wideR (ro : Option Nat) : Fence:={ Fence.wide with round:=ro }
theorem callsIn_wideR {ro : Option Nat} {m : Nat} {P : Program} {f : FuncId} {args : Array Value} {w : World} {R : Ending → World → Prop} (h : Calls P f args w R) : CallsIn (wideR ro) m P f args w R:=callsIn_wide.2 h
theorem wpIn_of_wp {ro : Option Nat} {m : Nat} {P : Program} {o : Oper} {a : Act} {w : World} {next : Act → World → Prop} {Q : Exit → Act → World → Prop} (hnd : ∀ c,o.op ≠ .defer c) (h : o.wp P a w next Q) : o.wpIn (wideR ro) m P a w next Q:=by
  refine ⟨fun _ _ => trivial,?_⟩
  have hs : o.semAt (wideR ro).round a.eval = execOp a.eval o:=Oper.semAt_plain (wideR ro) _ _ hnd
  rw [hs]
  unfold Oper.wp at h
  generalize (execOp a.eval o).run P w = res at h ⊢
  cases res with
  | ok x w' =>
    cases x with
    | value v => exact h
    | skip => exact h
    | defer d => exact h
    | enter f args => exact ⟨fun hd => by simp [wideR,Fence.wide] at hd,callsIn_wideR h⟩
    | row r args => exact ⟨fun hd => by simp [wideR,Fence.wide] at hd,fun c cs _ => let ⟨v,w',q,s⟩:=h c cs; ⟨v,w',q,stepsIn_wide.2 s⟩⟩
    | _ => exact h.elim
  | halt x w' =>
    cases x with
    | panic v => exact h
    | _ => exact h.elim
section
variable (P : Program) (E : Env) (n : Nat) (ro : Option Nat)
def WLI (ops : Array Oper) (l : List Oper) (K : Slots) (L : Res) (Q : Exit → Act → World → Prop) : Prop:=∀ a w,Agr n K a → Sat E L w → wpListIn (wideR ro) 0 P ops Q l a w
def WI (c : Code) (K : Slots) (L : Res) (Q : Exit → Act → World → Prop) : Prop:=∀ a w,Agr n K a → Sat E L w → c.wpIn (wideR ro) 0 P Q a w
end
section
variable {P : Program} {E : Env} {n : Nat} {ro : Option Nat} {K : Slots} {L : Res} {Q : Exit → Act → World → Prop} {ops : Array Oper} {o : Oper} {rest : List Oper} {c : Code}
theorem WLI_nil (h : X E n Q .normal K L) : WLI P E n ro ops [] K L Q:=h
theorem WLI_cons {d : Nat} (hnd : ∀ c,o.op ≠ .defer c) (hg : o.guard = none) (hd : o.dst = some d) (hn : d < n) (h : OpT P E n o K L (fun v L' => WLI P E n ro ops rest ((d,v) :: K) L' Q)) : WLI P E n ro ops (o :: rest) K L Q :=
  fun a w hA hS => wpListIn_plain hg fun Kc hK => wpIn_of_wp hnd (h a w Kc Q hA hS fun v L' w' hC hS' => hK _ _ (by rw [hd]; exact hC _ _ (hA.put hn v) hS'))
theorem WLI_cons0 (hnd : ∀ c,o.op ≠ .defer c) (hg : o.guard = none) (hd : o.dst = none) (h : OpT P E n o K L (fun _ L' => WLI P E n ro ops rest K L' Q)) : WLI P E n ro ops (o :: rest) K L Q :=
  fun a w hA hS => wpListIn_plain hg fun Kc hK => wpIn_of_wp hnd (h a w Kc Q hA hS fun v L' w' hC hS' => hK _ _ (by rw [hd]; exact hC _ _ hA hS'))
theorem WI_regL {id : Nat} {l : List Oper} (h : WLI P E n ro l.toArray l K L Q) : WI P E n ro (.region id l.toArray false) K L Q:=fun a w hA hS => wpIn_region_lit (h a w hA hS)
theorem WI_open {α : Type} {φ : α → Prop} {Ps : α → List HP} (r b : Nat) {Pr : HP} (hr : look L r = some Pr) (hp : ∀ h,Pr h → ∃ x,φ x ∧ starL (Ps x) h) (k : ∀ x,φ x → WI P E n ro c K (En b (Ps x) ++ (r,emp) :: L) Q) : WI P E n ro c K L Q:=fun a w hA hS => by
  obtain ⟨x,hS2⟩:=hS.ex hr (Q:=fun x h => φ x ∧ starL (Ps x) h) hp
  have hx:=hS2.get (look_same _ _ _) fun h hp => hp.1
  have hS3:=hS2.split (b:=b) (Ps:=Ps x) (look_same _ _ _) fun h hp => hp.2
  refine k x hx a w hA (hS3.sub fun r' P' h => ?_)
  rw [look_append] at h ⊢
  cases hl : look (En b (Ps x)) r' with
  | some X => rw [hl] at h; exact h
  | none =>
    rw [hl] at h
    simp only [Option.none_or] at h ⊢
    by_cases hrr : r = r'
    · subst hrr; rw [look_same] at h ⊢; exact h
    · rw [look_other hrr] at h; rw [look_other hrr,look_other hrr]; exact h
theorem WI_block {id : Nat} (h : WI P E n ro c K L (Exit.inBlock id Q)) : WI P E n ro (.block id c) K L Q:=fun a w hA hS => wpIn_block (h a w hA hS)
theorem W_of_WI (h : WI P E n none c K L Q) : W P E n c K L Q:=fun a w hA hS => wpIn_wide.1 (h a w hA hS)
def RoundS (P : Program) {α : Type} (l : Nat) (enc : α → Value) (G : List α → HP) (N : Nat) : Prop :=
  ∀ (E : Env) (F : HP) (pre : List α) (x : α) (w : World),pre.length < N → Sat E (En 0 [F,G pre]) w → YieldAt Fence.wide 0 P l #[enc x] w fun e w' => e = .returned (.bool true) ∧ Sat E (En 0 [F,G (pre ++ [x])]) w'
theorem WLI_yield {α : Type} {l d N : Nat} {enc : α → Value} {G : List α → HP} (hround : RoundS P l enc G N) {pre : List α} {x : α} {X Y : Operand} {ts : Array TypeId} (hlen : pre.length < N)
    (hop : o.op = .call { callee:=.value X,args:=#[Y],argTypes:=ts }) (hX : evK K X = some (.func (.yield l) #[] #[])) (hY : evK K Y = some (enc x)) (hg : o.guard = none) (hd : o.dst = some d) (hn : d < n)
    (J : List Nat) {Js : List HP} (r b : Nat) (hJ : lookL L J = some Js) (hr : look L r = some (G pre)) (hnd : (J ++ [r]).Nodup) (hb : ∀ j ∈ J,j < b)
    (k : WLI P E n none ops rest ((d,.bool true) :: K) (En b [G (pre ++ [x])] ++ zipR J Js) Q) : WLI P E n none ops (o :: rest) K L Q:=fun a w hA hS => wpListIn_plain hg fun Kc hK => by
  have hS2:=hS.pack (.of hJ) (C:=[r]) (Cs:=[G pre]) ⟨hr,trivial⟩ hnd
  obtain ⟨fn,tmps,assign,body,hy,hR⟩:=hround E (starL Js) pre x w hlen hS2
  refine ⟨fun _ _ => trivial,?_⟩
  have hs : o.semAt (wideR none).round a.eval = execOp a.eval o:=rfl
  have hrun : (execOp a.eval o).run P w = .ok (.round l fn tmps assign body) w:=by
    simp [execOp,hop,resolve,hA.eval hX,hA.eval hY,invoke,Deferred.ofValue,Result.andThen,hy]
  rw [hs,hrun]
  refine ⟨fun hd => by simp [wideR,Fence.wide] at hd,RoundIn.mono hR ?_⟩
  rintro e w' ⟨rfl,hS'⟩
  refine hK _ _ ?_
  rw [hd]
  exact k _ _ (hA.put hn _) (hS'.unpack b (by rw [List.nodup_append] at hnd; exact hnd.1) hb)
end
def objP (g : Nat) (o : Obj) : HP:=fun h => h g = some o
theorem Sat.obj {E : Env} {L : Res} {w : World} {r g : Nat} {o : Obj} (hS : Sat E L w) (hr : look L r = some (objP g o)) : w.heap[g]? = some o:=by
  obtain ⟨h,q1,q2⟩:=hS.read hr
  exact q2 _ _ q1
theorem Sat.put {E : Env} {L : Res} {w : World} {r g : Nat} {o : Obj} (hS : Sat E L w) (hr : look L r = some (objP g o)) (o' : Obj) : Sat E ((r,objP g o') :: L) (w.putObj g o') :=
  hS.step hr fun h hp hin => by
    have hlt:=lt_of_heap (hin _ _ hp)
    refine ⟨[g],single g o',by simp [show h g = some o from hp],⟨rfl,rfl,rfl,by simp [World.putObj],fun k hk hm => World.putObj_heap_other (by simpa using hm)⟩,single_same _ _,single_in (World.putObj_heap_same hlt),fun q hq => .inl ?_⟩
    rw [single_dom hq,show h g = some o from hp]; rfl
theorem Sat.newObj {E : Env} {L : Res} {w : World} (hS : Sat E L w) (r : Nat) (o : Obj) : Sat E ((r,objP w.heap.size o) :: L) (w.alloc o) :=
  hS.new r ⟨rfl,rfl,rfl,by simp,fun k hk _ => heap_alloc_old w _ hk⟩ (single w.heap.size o) (single_same _ _) (single_in (heap_alloc_new w o)) (fun q hq => by rw [single_dom hq]; exact Nat.le_refl _)
theorem LookAll.same {L L' : Res} : ∀ {J : List Nat} {Js : List HP},LookAll L J Js → (∀ j ∈ J,look L' j = look L j) → LookAll L' J Js
  | [],[],_,_ => trivial
  | [],_ :: _,h,_ => h
  | _ :: _,[],h,_ => h
  | j :: J,P :: Js,h,hs => ⟨(hs j (by simp)).trans h.1,h.2.same fun j' hj => hs j' (by simp [hj])⟩
theorem LookAll.append {L : Res} : ∀ {J J' : List Nat} {Js Js' : List HP},LookAll L J Js → LookAll L J' Js' → LookAll L (J ++ J') (Js ++ Js')
  | [],_,[],_,_,h => h
  | [],_,_ :: _,_,h,_ => h.elim
  | _ :: _,_,[],_,h,_ => h.elim
  | j :: J,_,P :: Js,_,h,h' => ⟨h.1,h.2.append h'⟩
def AgrD (ds : List Deferred) (n : Nat) (K : Slots) (a : Act) : Prop:=a.defers = ds ∧ a.tmps.size = n ∧ ∀ k v,look K k = some v → a.tmps[k]? = some v
theorem AgrD.clear {ds : List Deferred} {n : Nat} {K : Slots} {a : Act} (h : AgrD ds n K a) : Agr n K { a with defers:=[] }:=⟨rfl,h.2.1,h.2.2⟩
theorem AgrD.put {ds : List Deferred} {n : Nat} {K : Slots} {a : Act} (h : AgrD ds n K a) {d : Nat} (hd : d < n) (v : Value) : AgrD ds n ((d,v) :: K) (a.put (some d) v):=by
  have:=h.clear.put hd v
  exact ⟨h.1,this.2.1,this.2.2⟩
section
variable (P : Program) (E : Env) (n : Nat) (ds : List Deferred)
def WD (c : Code) (K : Slots) (L : Res) (Q : Exit → Act → World → Prop) : Prop:=∀ a w,AgrD ds n K a → Sat E L w → Code.wp P c Q a w
def WLD (ops : Array Oper) (l : List Oper) (K : Slots) (L : Res) (Q : Exit → Act → World → Prop) : Prop:=∀ a w,AgrD ds n K a → Sat E L w → wpList P ops Q l a w
def XD (Q : Exit → Act → World → Prop) (e : Exit) (K : Slots) (L : Res) : Prop:=∀ a w,AgrD ds n K a → Sat E L w → Q e a w
end
section
variable {P : Program} {E : Env} {n : Nat} {ds : List Deferred} {K K' : Slots} {L L' : Res} {Q : Exit → Act → World → Prop} {ops : Array Oper} {o : Oper} {rest : List Oper} {c x y : Code}
theorem WD_seq (h : WD P E n ds x K L (Exit.then (y.wp P Q) Q)) : WD P E n ds (.seq x y) K L Q:=fun a w hA hS => wp_seq (h a w hA hS)
theorem XD_then (h : WD P E n ds y K L Q) : XD E n ds (Exit.then (y.wp P Q) Q) .normal K L:=h
theorem XD_block {id : Nat} (h : XD E n ds Q .normal K L) : XD E n ds (Exit.inBlock id Q) .normal K L:=h
theorem WD_ret (h : XD E n ds Q .ret K L) : WD P E n ds .ret K L Q:=fun a w hA hS => wp_ret (h a w hA hS)
theorem Dr9 {id : Nat} {l : List Oper} (h : WLD P E n ds l.toArray l K L Q) : WD P E n ds (.region id l.toArray false) K L Q:=fun a w hA hS => wp_region_lit (h a w hA hS)
theorem WLD_nil (h : XD E n ds Q .normal K L) : WLD P E n ds ops [] K L Q:=h
theorem Dp9 {d : Nat} {v : Value} (hg : o.guard = none) (hd : o.dst = some d) (hn : d < n) (h : Pure P E n o K L v) (k : WLD P E n ds ops rest ((d,v) :: K) L Q) : WLD P E n ds ops (o :: rest) K L Q :=
  fun a w hA hS => wpList_plain hg fun Kc hK => by
    have hev : ({ a with defers:=[] } : Act).eval = a.eval:=by funext x; cases x <;> rfl
    have hrun : (execOp a.eval o).run P w = .ok (.value v) w:=by rw [← hev]; exact h { a with defers:=[] } w hA.clear hS
    unfold Oper.wp
    rw [hrun]
    exact hK _ _ (by rw [hd]; exact k _ _ (hA.put hn v) hS)
theorem WD.pre (h : WD P E n ds c K' L' Q) (hK : AllIn K K') (hL : AllIn L L') : WD P E n ds c K L Q:=fun a w hA hS => h a w ⟨hA.1,hA.2.1,fun k v hk => hA.2.2 k v (hK.look k v hk)⟩ (hS.sub hL.look)
end
theorem W_open {P : Program} {E : Env} {n : Nat} {K : Slots} {L : Res} {Q : Exit → Act → World → Prop} {c : Code} {α : Type} {φ : α → Prop} {Ps : α → List HP} (r b : Nat) {Pr : HP} (hr : look L r = some Pr) (hp : ∀ h,Pr h → ∃ x,φ x ∧ starL (Ps x) h) (k : ∀ x,φ x → W P E n c K (En b (Ps x) ++ (r,emp) :: L) Q) : W P E n c K L Q:=fun a w hA hS => by
  obtain ⟨x,hS2⟩:=hS.ex hr (Q:=fun x h => φ x ∧ starL (Ps x) h) hp
  have hx:=hS2.get (look_same _ _ _) fun h hp => hp.1
  have hS3:=hS2.split (b:=b) (Ps:=Ps x) (look_same _ _ _) fun h hp => hp.2
  refine k x hx a w hA (hS3.sub fun r' P' h => ?_)
  rw [look_append] at h ⊢
  cases hl : look (En b (Ps x)) r' with
  | some X => rw [hl] at h; exact h
  | none =>
    rw [hl] at h
    simp only [Option.none_or] at h ⊢
    by_cases hrr : r = r'
    · subst hrr; rw [look_same] at h ⊢; exact h
    · rw [look_other hrr] at h; rw [look_other hrr,look_other hrr]; exact h
def SeqS (P : Program) {α : Type} (gf : FuncId) (lb : Array Value) (enc : α → Value) (N : Nat) (F : HP) (Cs : List HP) (S : List α → Prop) (Cs' : List HP) : Prop :=
  ∀ (l : Nat) (G : List α → HP),RoundS P l enc G N → CallsS P gf (#[.func (.yield l) #[] #[]] ++ lb) F (G [] :: Cs) (fun v Ps => ∃ xs,S xs ∧ Ps = G xs :: Cs')
theorem callsS_marks {P : Program} {n : Nat} {f : FuncId} {fn : Func} {c : Code} {args : Array Value} {F : HP} {Ps : List HP} {R : Value → List HP → Prop}
    (hf : P.funcs[f]? = some fn) (hb : fn.body = some c) (hn : fn.ntmps = n) (ha : args.size ≤ n)
    (h : ∀ E,W P E n c (enumK 0 args.toList) (En 0 (F :: Ps)) (bodyPostM Fence.wide 0 P fn (Ret E F R))) : CallsS P f args F Ps R:=by
  intro E w hS
  refine callsIn_wide.1 (callsIn_of_wp_marks (n:=0) hf hb trivial (wpIn_wide.2 (h E _ w ⟨rfl,by simp [hn]; omega,fun k v hk => ?_⟩ hS)))
  obtain ⟨_,h2⟩:=look_enumK _ _ _ _ hk
  have hlt : k < args.size:=by simpa using (List.getElem?_eq_some_iff.1 h2).1
  rw [Array.getElem?_append_left hlt]
  simpa using h2
section
variable {P : Program} {E : Env} {n : Nat} {K : Slots} {L : Res} {Q : Exit → Act → World → Prop}
end
open Go.RowKit
def chV (size k n j : Nat) (A : Option Addr) : Value:=.slice (if j * k + min k (n - j * k) = j * k then A else A.map (·.add (j * k * size))) (j * k + min k (n - j * k) - j * k) (j * k + min k (n - j * k) - j * k)
def chN (k n j : Nat) : Nat:=min k (n - j * k)
theorem chV_rd {size k n j c : Nat} {A : Option Addr} {xs : List Value} {h : Hlt} (hr : rdP size (.slice A n c) n xs h) (hj : j * k < n) (hk : 0 < k) : rdP size (chV size k n j A) (chN k n j) ((xs.drop (j * k * size)).take (chN k n j * size)) h:=by
  have hm : j * k + chN k n j ≤ n:=by unfold chN; omega
  have h1:=rdP_sub (a:=j * k) (b:=j * k + chN k n j) hr (by omega) hm
  rw [show j * k + chN k n j - j * k = chN k n j by omega] at h1
  obtain ⟨h2,A2,c2,h3,h4,h5,h6⟩:=h1
  obtain ⟨_,A0,c0,h7,h8,h9,_⟩:=hr
  injection h7 with h7a h7b h7c
  subst h7a; subst h7c
  unfold subV at h3
  injection h3 with h3a h3b h3c
  have hc : ¬ c = j * k:=by omega
  rw [if_neg hc] at h3a
  have hn : ¬ j * k + min k (n - j * k) = j * k:=by omega
  refine ⟨h2,A2,chN k n j,?_,Nat.le_refl _,fun hA => ?_,h6⟩
  · unfold chV
    rw [if_neg hn,h3a]
    unfold chN
    rw [show j * k + min k (n - j * k) - j * k = min k (n - j * k) by omega]
  · exfalso
    rw [hA] at h3a
    have : A = none:=by cases A with
      | none => rfl
      | some a => cases h3a
    have:=h9 this
    omega
section
variable {P : Program} {E : Env} {n : Nat} {K : Slots} {L : Res} {o : Oper}
theorem Pu_sliceLoV {t e size m c a : Nat} {A : Option Addr} {x lo : Operand} {kd : IntKind} {i : Int} (ho : o.op = .slice t x (some lo) none none) (hu : ∀ w,(underlying t).run P w = .ok (.slice e) w) (hs : ∀ w,(sizeOf e).run P w = .ok size w)
    (hx : evK K x = some (.slice A m c)) (hlo : evK K lo = some (.int kd i)) (hi : i = (a : Int)) (hab : a ≤ m) (hmc : m ≤ c) : Pure P E n o K L (subV size (.slice A m c) a m):=fun ac w hA hS => by
  have:=run_slice_sub (P:=P) w (v:=.slice A m c) rfl hu hs (lo:=some (ac.eval lo)) (hi:=none) (a:=a) (b:=m) (.inr ⟨kd,i,by rw [hA.eval hlo],hi⟩) (.inl ⟨rfl,rfl⟩) hab hmc
  simp only [execOp,ho,hA.eval hx,Option.map_some,Option.map_none,Sem.run_bind,this,Result.andThen_ok,Sem.run_pure]
theorem Pu_slice3V {t e size m c a b : Nat} {A : Option Addr} {x lo hi mx : Operand} {kl kh km : IntKind} {il ih im : Int} (ho : o.op = .slice t x (some lo) (some hi) (some mx)) (hu : ∀ w,(underlying t).run P w = .ok (.slice e) w) (hs : ∀ w,(sizeOf e).run P w = .ok size w)
    (hx : evK K x = some (.slice A m c)) (hlo : evK K lo = some (.int kl il)) (hhi : evK K hi = some (.int kh ih)) (hmx : evK K mx = some (.int km im)) (h1 : il = (a : Int)) (h2 : ih = (b : Int)) (h3 : im = (b : Int)) (hab : a ≤ b) (hbm : b ≤ m) (hmc : m ≤ c) :
    Pure P E n o K L (.slice (if b = a then A else A.map (·.add (a * size))) (b - a) (b - a)):=fun ac w hA hS => by
  subst h1; subst h2; subst h3
  have sb : ∀ (k : IntKind) (a y : Nat) (code : BoundsCode),a ≤ y → (Instr.sliceBound (.int k (a : Int)) y code).run P w = .ok a w:=by
    intro k a y code h
    simp only [Instr.sliceBound,asIntOf,Sem.run_bind,Sem.run_pure,Result.andThen_ok]
    rw [if_pos (by omega)]
    simp
  simp only [execOp,ho,hA.eval hx,Option.map_some,hA.eval hlo,hA.eval hhi,hA.eval hmx,Sem.run_bind,Instr.sliceAt]
  unfold Instr.slice
  simp only [Sem.run_bind,hu,Result.andThen_ok,hs,Sem.run_pure]
  unfold Instr.sliceBounds
  simp only [Sem.run_bind,Sem.run_pure,Result.andThen_ok,sb _ _ _ _ (show b ≤ c by omega),sb _ _ _ _ (Nat.le_refl b),sb _ _ _ _ hab,if_true,Bool.false_eq_true,if_false,Option.isSome_none,Option.isSome_some]
end
open Go.RowKit
set_option maxRecDepth 8000
theorem Pu_min {P : Program} {E : Env} {n : Nat} {K : Slots} {L : Res} {o : Oper} {x y : Operand} {ts : Array TypeId} {a b : Int} (ho : o.op = .call { callee:=.builtin .min,args:=#[x,y],argTypes:=ts }) (hx : evK K x = some (.int .i64 a)) (hy : evK K y = some (.int .i64 b)) : Pure P E n o K L (.int .i64 (min a b)):=fun c w hA hS => by
  have : (if b < a then b else a) = min a b:=by simp only [Int.min_def]; split <;> split <;> omega
  simp only [execOp,ho,resolve,invoke,builtin,Sem.run_bind,Sem.run_pure,Result.andThen_ok,List.map_toArray,List.map_cons,List.map_nil,hA.eval hx,hA.eval hy]
  simp [Builtin.min_,Builtin.min2,this,Result.andThen]
theorem chunkB_seq (b1 b2 n c : Nat) (A : Option Addr) (hnc : n ≤ c) (hn : n ≤ 1000000000) (F : HP) : SeqS Tryz.prog 127 #[.pointer (some ⟨b1,0,none⟩),.pointer (some ⟨b2,0,none⟩)] (fun j : {j : Nat // j * 64 < n} => chV 1 64 n j.1 A) (n + 1) F [blk b1 36 [.slice A n c],blk b2 3 [.int .i64 64]] (fun xs => xs.map (·.1) = List.range xs.length ∧ n ≤ xs.length * 64 ∧ ((xs.length - 1) * 64 < n ∨ xs.length = 0)) [blk b1 36 [.slice A n c],blk b2 3 [.int .i64 64]]:=by
 intro ln G hround
 refine callsS_enter Tryz.func127 rfl Tryz.ntmps127 (by simp) (fun E => ?_)
 refine Q9 (R9 (G9 rfl rfl (N9 (X9 ?_))))
 refine W_block ?_
 refine W_loop (α:=List {j : Nat // j * 64 < n}) (fun x => [(0,.func (.yield ln) #[] #[]),(1,.pointer (some ⟨b1,0,none⟩)),(2,.pointer (some ⟨b2,0,none⟩)),(4,.int .i64 ((x.length * 64 : Nat) : Int))]) (fun x => [(0,F),(1,G x),(2,blk b1 36 [.slice A n c]),(3,blk b2 3 [.int .i64 64])]) (fun x => x.map (·.1) = List.range x.length ∧ ((x.length - 1) * 64 < n ∨ x.length = 0)) (fun x => n + 1 - x.length) ([]) ⟨rfl,.inr rfl⟩ (a9 rfl) (a9 rfl) (fun x hx => ?_)
 obtain ⟨hx1,hx2⟩:=hx
 refine Q9 (Q9 (R9 (M9 rfl rfl (L9 rfl (Pb9 (r:=2) rfl Tryz.isAgg36 rfl rfl rfl) (L9 rfl (Pu_lenK rfl Tryz.runUnderlying36 rfl) (L9 rfl (Pn9 rfl rfl rfl (run_lss _ _ _ _ _ _)) (N9 (X9 ?_))))))))
 refine C9 rfl (fun hc9 => ?_) (fun hc9 => ?_)
 ·
  have hlt : x.length * 64 < n:=by have:=of_decide_eq_true hc9; omega
  refine K9 (X9 ?_)
  refine Q9 ?_
  refine W_block ?_
  refine Q9 ?_
  refine W_draw (N:=7) (by kernel_rfl) rfl [(0,_),(2,_),(3,_)] ⟨rfl,rfl,rfl,trivial⟩ ?_
  refine (T9 0 rfl rfl (Pb9 (r:=3) rfl Tryz.isAgg3 rfl rfl rfl) (T9 1 rfl rfl (Pb9 (r:=2) rfl Tryz.isAgg36 rfl rfl rfl) (T9 2 rfl rfl (Pm9 rfl rfl) (T9 3 rfl rfl (Pu_sliceLoV (a:=x.length * 64) rfl Tryz.runUnderlying36 Tryz.sizeOf5 rfl rfl rfl (by omega) hnc) (T9 4 rfl rfl (Pu_lenK rfl Tryz.runUnderlying36 rfl) (T9 5 rfl rfl (Pu_min rfl rfl rfl) (T9 6 rfl rfl (Pg9 rfl rfl) (Ad9 (by kernel_rfl) (X9 ?_)))))))))
  refine Q9 ?_
  obtain ⟨m,hm⟩ : ∃ m : Nat,m = min 64 (n - x.length * 64):=⟨_,rfl⟩
  rw [show min (64 : Int) (((n - x.length * 64 : Nat)) : Int) = (m : Int) by omega]
  refine W_of_WI (WI_regL ?_)
  refine WLI_cons (by intro c h; cases h) rfl rfl (by decide) (Or9 (Pm9 rfl rfl) ?_)
  refine WLI_cons (by intro c h; cases h) rfl rfl (by decide) (Or9 (Pb9 (r:=2) rfl Tryz.isAgg36 rfl rfl rfl) ?_)
  refine WLI_cons (by intro c h; cases h) rfl rfl (by decide) (Or9 (Pm9 rfl rfl) ?_)
  refine WLI_cons (by intro c h; cases h) rfl rfl (by decide) (Or9 (Pm9 rfl rfl) ?_)
  refine WLI_cons (by intro c h; cases h) rfl rfl (by decide) (Or9 (Pm9 rfl rfl) ?_)
  refine WLI_cons (by intro c h; cases h) rfl rfl (by decide) (Or9 (Pn9 rfl rfl rfl (run_add _ _ _ _ _ (by omega))) ?_)
  refine WLI_cons (by intro c h; cases h) rfl rfl (by decide) (Or9 (Pm9 rfl rfl) ?_)
  refine WLI_cons (by intro c h; cases h) rfl rfl (by decide) (Or9 (Pm9 rfl rfl) ?_)
  refine WLI_cons (by intro c h; cases h) rfl rfl (by decide) (Or9 (Pn9 rfl rfl rfl (run_add _ _ _ _ _ (by omega))) ?_)
  refine WLI_cons (by intro c h; cases h) rfl rfl (by decide) (Or9 (Pu_slice3V (a:=x.length * 64) (b:=x.length * 64 + m) rfl Tryz.runUnderlying36 Tryz.sizeOf5 rfl rfl rfl rfl rfl (by omega) (by omega) (by omega) (by omega) hnc) ?_)
  subst hm
  refine WLI_yield hround (pre:=x) (x:=⟨x.length,hlt⟩) (by omega) rfl rfl rfl rfl rfl (by decide) [0,2,3] 1 900 rfl rfl (by decide) (by decide) ?_
  refine WLI_cons (by intro c h; cases h) rfl rfl (by decide) (Or9 (Pu_un rfl rfl (run_not _)) ?_)
  refine WLI_nil ?_
  refine (X9 ?_)
  refine W_false rfl (rfl) ?_
  refine K9 (X_block (X9 ?_))
  refine R9 (M9 rfl rfl (L9 rfl (Pb9 (r:=3) rfl Tryz.isAgg3 rfl rfl rfl) (L9 rfl (Pn9 rfl rfl rfl (run_add _ _ _ _ _ (by omega))) (G9 rfl rfl (N9 ?_)))))
  refine X_ren 900 1 rfl ?_
  exact Xr9 (x ++ [⟨x.length,hlt⟩]) ⟨by rw [List.map_append,List.length_append,hx1,List.map_cons,List.map_nil]; exact (List.range_succ).symm,by rw [List.length_append]; show (x.length + 1 - 1) * 64 < n ∨ _; left; simpa using hlt⟩ (by show n + 1 - (x ++ [_]).length < n + 1 - x.length; rw [List.length_append,List.length_singleton]; omega) ⟨rfl,rfl,rfl,lookV_eq rfl (int_eq (by rw [List.length_append,List.length_singleton]; omega)),trivial⟩ ⟨rfl,rfl,rfl,rfl,trivial⟩
 ·
  have hge : n ≤ x.length * 64:=by have:=of_decide_eq_false hc9; omega
  refine W_exit (X_then_exit (X_then_exit (X_block_exit ?_)))
  exact Xe9 [1,2,3] (Ps:=[_,_,_]) (res0 Tryz.results127) rfl (by decide) ⟨x,⟨hx1,hge,hx2⟩,rfl⟩
theorem chunkB_spec (v : Value) (hv : v.cells = #[v]) (F : HP) : CallsS Tryz.prog 91 #[v,.int .i64 64] F [] (fun r Ps => ∃ b1 b2,r = .func (.func 127) #[] #[.pointer (some ⟨b1,0,none⟩),.pointer (some ⟨b2,0,none⟩)] ∧ Ps = [blk b1 36 [v],blk b2 3 [.int .i64 64]]):=by
 refine callsS_enter Tryz.func91 rfl Tryz.ntmps91 (by simp) (fun E => ?_)
 refine Q9 (R9 (Lc9 rfl rfl (by decide) (OpT_box (r:=101) rfl rfl (show v.cells = [v].toArray from hv) (fun g101 => (Lc9 rfl rfl (by decide) (OpT_box (r:=102) rfl rfl rfl (fun g102 => (G9 rfl rfl (N9 (X9 (Q9 (Q9 (R9 (L9 rfl (Pb9 (r:=102) rfl Tryz.isAgg3 rfl rfl rfl) (L9 rfl (Pn9 rfl rfl rfl (run_lss _ _ _ _ _ _)) (N9 (X9 ?_)))))))))))))))))
 refine W_false rfl (rfl) ?_
 refine K9 (X9 ?_)
 refine Q9 (R9 (L9 rfl (Pu_makeFunc rfl rfl) (G9 rfl rfl (N9 (X9 ?_)))))
 refine W_ret ?_
 exact Xq9 [101,102] (Ps:=[_,_]) (res1 Tryz.results91 rfl) rfl (by decide) ⟨_,_,rfl,rfl⟩
theorem chunkI_seq (b1 b2 n c : Nat) (A : Option Addr) (hnc : n ≤ c) (hn : n ≤ 1000000000) (F : HP) : SeqS Tryz.prog 128 #[.pointer (some ⟨b1,0,none⟩),.pointer (some ⟨b2,0,none⟩)] (fun j : {j : Nat // j * 8 < n} => chV 32 8 n j.1 A) (n + 1) F [blk b1 165 [.slice A n c],blk b2 3 [.int .i64 8]] (fun xs => xs.map (·.1) = List.range xs.length ∧ n ≤ xs.length * 8 ∧ ((xs.length - 1) * 8 < n ∨ xs.length = 0)) [blk b1 165 [.slice A n c],blk b2 3 [.int .i64 8]]:=by
 intro ln G hround
 refine callsS_enter Tryz.func128 rfl Tryz.ntmps128 (by simp) (fun E => ?_)
 refine Q9 (R9 (G9 rfl rfl (N9 (X9 ?_))))
 refine W_block ?_
 refine W_loop (α:=List {j : Nat // j * 8 < n}) (fun x => [(0,.func (.yield ln) #[] #[]),(1,.pointer (some ⟨b1,0,none⟩)),(2,.pointer (some ⟨b2,0,none⟩)),(4,.int .i64 ((x.length * 8 : Nat) : Int))]) (fun x => [(0,F),(1,G x),(2,blk b1 165 [.slice A n c]),(3,blk b2 3 [.int .i64 8])]) (fun x => x.map (·.1) = List.range x.length ∧ ((x.length - 1) * 8 < n ∨ x.length = 0)) (fun x => n + 1 - x.length) ([]) ⟨rfl,.inr rfl⟩ (a9 rfl) (a9 rfl) (fun x hx => ?_)
 obtain ⟨hx1,hx2⟩:=hx
 refine Q9 (Q9 (R9 (M9 rfl rfl (L9 rfl (Pb9 (r:=2) rfl Tryz.isAgg165 rfl rfl rfl) (L9 rfl (Pu_lenK rfl Tryz.runUnderlying165 rfl) (L9 rfl (Pn9 rfl rfl rfl (run_lss _ _ _ _ _ _)) (N9 (X9 ?_))))))))
 refine C9 rfl (fun hc9 => ?_) (fun hc9 => ?_)
 ·
  have hlt : x.length * 8 < n:=by have:=of_decide_eq_true hc9; omega
  refine K9 (X9 ?_)
  refine Q9 ?_
  refine W_block ?_
  refine Q9 ?_
  refine W_draw (N:=7) (by kernel_rfl) rfl [(0,_),(2,_),(3,_)] ⟨rfl,rfl,rfl,trivial⟩ ?_
  refine (T9 0 rfl rfl (Pb9 (r:=3) rfl Tryz.isAgg3 rfl rfl rfl) (T9 1 rfl rfl (Pb9 (r:=2) rfl Tryz.isAgg165 rfl rfl rfl) (T9 2 rfl rfl (Pm9 rfl rfl) (T9 3 rfl rfl (Pu_sliceLoV (a:=x.length * 8) rfl Tryz.runUnderlying165 Tryz.sizeOf29 rfl rfl rfl (by omega) hnc) (T9 4 rfl rfl (Pu_lenK rfl Tryz.runUnderlying165 rfl) (T9 5 rfl rfl (Pu_min rfl rfl rfl) (T9 6 rfl rfl (Pg9 rfl rfl) (Ad9 (by kernel_rfl) (X9 ?_)))))))))
  refine Q9 ?_
  obtain ⟨m,hm⟩ : ∃ m : Nat,m = min 8 (n - x.length * 8):=⟨_,rfl⟩
  rw [show min (8 : Int) (((n - x.length * 8 : Nat)) : Int) = (m : Int) by omega]
  refine W_of_WI (WI_regL ?_)
  refine WLI_cons (by intro c h; cases h) rfl rfl (by decide) (Or9 (Pm9 rfl rfl) ?_)
  refine WLI_cons (by intro c h; cases h) rfl rfl (by decide) (Or9 (Pb9 (r:=2) rfl Tryz.isAgg165 rfl rfl rfl) ?_)
  refine WLI_cons (by intro c h; cases h) rfl rfl (by decide) (Or9 (Pm9 rfl rfl) ?_)
  refine WLI_cons (by intro c h; cases h) rfl rfl (by decide) (Or9 (Pm9 rfl rfl) ?_)
  refine WLI_cons (by intro c h; cases h) rfl rfl (by decide) (Or9 (Pm9 rfl rfl) ?_)
  refine WLI_cons (by intro c h; cases h) rfl rfl (by decide) (Or9 (Pn9 rfl rfl rfl (run_add _ _ _ _ _ (by omega))) ?_)
  refine WLI_cons (by intro c h; cases h) rfl rfl (by decide) (Or9 (Pm9 rfl rfl) ?_)
  refine WLI_cons (by intro c h; cases h) rfl rfl (by decide) (Or9 (Pm9 rfl rfl) ?_)
  refine WLI_cons (by intro c h; cases h) rfl rfl (by decide) (Or9 (Pn9 rfl rfl rfl (run_add _ _ _ _ _ (by omega))) ?_)
  refine WLI_cons (by intro c h; cases h) rfl rfl (by decide) (Or9 (Pu_slice3V (a:=x.length * 8) (b:=x.length * 8 + m) rfl Tryz.runUnderlying165 Tryz.sizeOf29 rfl rfl rfl rfl rfl (by omega) (by omega) (by omega) (by omega) hnc) ?_)
  subst hm
  refine WLI_yield hround (pre:=x) (x:=⟨x.length,hlt⟩) (by omega) rfl rfl rfl rfl rfl (by decide) [0,2,3] 1 900 rfl rfl (by decide) (by decide) ?_
  refine WLI_cons (by intro c h; cases h) rfl rfl (by decide) (Or9 (Pu_un rfl rfl (run_not _)) ?_)
  refine WLI_nil ?_
  refine (X9 ?_)
  refine W_false rfl (rfl) ?_
  refine K9 (X_block (X9 ?_))
  refine R9 (M9 rfl rfl (L9 rfl (Pb9 (r:=3) rfl Tryz.isAgg3 rfl rfl rfl) (L9 rfl (Pn9 rfl rfl rfl (run_add _ _ _ _ _ (by omega))) (G9 rfl rfl (N9 ?_)))))
  refine X_ren 900 1 rfl ?_
  exact Xr9 (x ++ [⟨x.length,hlt⟩]) ⟨by rw [List.map_append,List.length_append,hx1,List.map_cons,List.map_nil]; exact (List.range_succ).symm,by rw [List.length_append]; show (x.length + 1 - 1) * 8 < n ∨ _; left; simpa using hlt⟩ (by show n + 1 - (x ++ [_]).length < n + 1 - x.length; rw [List.length_append,List.length_singleton]; omega) ⟨rfl,rfl,rfl,lookV_eq rfl (int_eq (by rw [List.length_append,List.length_singleton]; omega)),trivial⟩ ⟨rfl,rfl,rfl,rfl,trivial⟩
 ·
  have hge : n ≤ x.length * 8:=by have:=of_decide_eq_false hc9; omega
  refine W_exit (X_then_exit (X_then_exit (X_block_exit ?_)))
  exact Xe9 [1,2,3] (Ps:=[_,_,_]) (res0 Tryz.results128) rfl (by decide) ⟨x,⟨hx1,hge,hx2⟩,rfl⟩
theorem chunkI_spec (v : Value) (hv : v.cells = #[v]) (F : HP) : CallsS Tryz.prog 93 #[v,.int .i64 8] F [] (fun r Ps => ∃ b1 b2,r = .func (.func 128) #[] #[.pointer (some ⟨b1,0,none⟩),.pointer (some ⟨b2,0,none⟩)] ∧ Ps = [blk b1 165 [v],blk b2 3 [.int .i64 8]]):=by
 refine callsS_enter Tryz.func93 rfl Tryz.ntmps93 (by simp) (fun E => ?_)
 refine Q9 (R9 (Lc9 rfl rfl (by decide) (OpT_box (r:=101) rfl rfl (show v.cells = [v].toArray from hv) (fun g101 => (Lc9 rfl rfl (by decide) (OpT_box (r:=102) rfl rfl rfl (fun g102 => (G9 rfl rfl (N9 (X9 (Q9 (Q9 (R9 (L9 rfl (Pb9 (r:=102) rfl Tryz.isAgg3 rfl rfl rfl) (L9 rfl (Pn9 rfl rfl rfl (run_lss _ _ _ _ _ _)) (N9 (X9 ?_)))))))))))))))))
 refine W_false rfl (rfl) ?_
 refine K9 (X9 ?_)
 refine Q9 (R9 (L9 rfl (Pu_makeFunc rfl rfl) (G9 rfl rfl (N9 (X9 ?_)))))
 refine W_ret ?_
 exact Xq9 [101,102] (Ps:=[_,_]) (res1 Tryz.results93 rfl) rfl (by decide) ⟨_,_,rfl,rfl⟩
open Go.RowKit
section
variable {P : Program} {E : Env} {n : Nat} {K : Slots} {L : Res} {o : Oper} {C : Value → Res → Prop}
section
variable {κ : Type} [DecidableEq κ] {kt mt et : TypeId} {enc : κ → Value} {ok : κ → Prop}
def putQ (k : κ) (v : Value) (es : List (κ × Value)) : List (κ × Value):=if (lookQ k es).isSome then setQ k v es else es ++ [(k,v)]
theorem lookQ_set (k : κ) (v : Value) : ∀ (es : List (κ × Value)) (j : κ),lookQ j (setQ k v es) = if j = k ∧ (lookQ k es).isSome then some v else lookQ j es
  | [],j => by simp [setQ,lookQ]
  | p :: es,j => by
    rw [setQ]
    by_cases hk : k = p.1
    · rw [if_pos hk,lookQ,lookQ,lookQ,if_pos hk]
      by_cases hj : j = k
      · simp [hj]
      · simp [hj,hk ▸ hj]
    · rw [if_neg hk,lookQ,lookQ_set k v es j,lookQ,lookQ,if_neg hk]
      by_cases hj : j = p.1
      · have : j ≠ k:=fun h => hk (h ▸ hj)
        simp [hj,this,show p.1 ≠ k from fun h => hk h.symm]
      · simp [hj]
theorem lookQ_app (k : κ) (v : Value) : ∀ (es : List (κ × Value)) (j : κ),lookQ j (es ++ [(k,v)]) = (lookQ j es).or (if j = k then some v else none)
  | [],j => by simp [lookQ]
  | p :: es,j => by
    rw [List.cons_append,lookQ,lookQ,lookQ_app k v es j]
    by_cases hj : j = p.1 <;> simp [hj]
theorem lookQ_put (k : κ) (v : Value) (es : List (κ × Value)) (j : κ) : lookQ j (putQ k v es) = if j = k then some v else lookQ j es:=by
  unfold putQ
  cases h : (lookQ k es).isSome with
  | true => rw [if_pos rfl,lookQ_set]; simp [h]
  | false =>
    rw [if_neg (by simp),lookQ_app]
    by_cases hj : j = k
    · subst hj
      rw [if_pos rfl,if_pos rfl,Option.isSome_eq_false_iff.1 h |> Option.isNone_iff_eq_none.1]
      rfl
    · rw [if_neg hj,if_neg hj,Option.or_none]
theorem OpT_mapPutQ {r g : Nat} {x y z : Operand} {k : κ} {v : Value} {es : List (κ × Value)} (T : KeyT P kt enc ok) (ho : o.op = .mapUpdate mt x y z) (hm : P.underlying mt = some (.map kt et))
    (hx : evK K x = some (.map (some g))) (hy : evK K y = some (enc k)) (hl : ok k) (hz : evK K z = some v) (hr : look L r = some (mapQ enc ok g es none)) (hc : C undef ((r,mapQ enc ok g (putQ k v es) none) :: L)) : OpT P E n o K L C:=by
  unfold putQ at hc
  cases h : (lookQ k es).isSome with
  | true => rw [h] at hc; exact OpT_mapSetQ T ho hm hx hy hl hz hr h hc
  | false => rw [h] at hc; exact OpT_mapAddQ T ho hm hx hy hl hz hr (Option.isNone_iff_eq_none.1 (Option.isSome_eq_false_iff.1 h)) hc
end
end
open Go.RowKit
abbrev ok32 (k : List UInt8) : Prop:=k.length = 32
theorem keyB : KeyT Tryz.prog 29 idV ok32:=keyT_id Tryz.underlying29 Tryz.underlying5 Tryz.sizeOf5
abbrev LB:=List UInt8 × Value × List UInt8
def entsL (es : List LB) : List (List UInt8 × Value):=es.map fun p => (p.1,p.2.1)
def setL (k : List UInt8) (v : Value) (d : List UInt8) : List LB → List LB
  | [] => []
  | p :: es => if k = p.1 then (k,v,d) :: es else p :: setL k v d es
def hasL (k : List UInt8) (es : List LB) : Bool:=(es.map (·.1)).contains k
def putL (k : List UInt8) (v : Value) (d : List UInt8) (es : List LB) : List LB:=if (lookQ k (entsL es)).isSome then setL k v d es else es ++ [(k,v,d)]
theorem setQ_L (k : List UInt8) (v : Value) (d : List UInt8) : ∀ es : List LB,setQ k v (entsL es) = entsL (setL k v d es)
  | [] => rfl
  | p :: es => by
    show setQ k v ((p.1,p.2.1) :: entsL es) = _
    rw [setQ,setL]
    by_cases h : k = p.1
    · rw [if_pos h,if_pos h]; rfl
    · rw [if_neg h,if_neg h,setQ_L k v d es]; rfl
theorem putQ_L (k : List UInt8) (v : Value) (d : List UInt8) (es : List LB) : putQ k v (entsL es) = entsL (putL k v d es):=by
  unfold putQ putL
  split
  · exact setQ_L k v d es
  · unfold entsL; rw [List.map_append]; rfl
theorem setL_keys (k : List UInt8) (v : Value) (d : List UInt8) : ∀ es : List LB,(setL k v d es).map (·.1) = es.map (·.1)
  | [] => rfl
  | p :: es => by
    rw [setL]
    split
    · rename_i h; rw [List.map_cons,List.map_cons,h]
    · rw [List.map_cons,List.map_cons,setL_keys k v d es]
theorem setL_mem {k : List UInt8} {v : Value} {d : List UInt8} : ∀ {es : List LB} {p : LB},p ∈ setL k v d es → p = (k,v,d) ∨ p ∈ es
  | [],_,h => by simp [setL] at h
  | q :: es,p,h => by
    rw [setL] at h
    split at h
    · rcases List.mem_cons.1 h with h | h
      · exact .inl h
      · exact .inr (by simp [h])
    · rcases List.mem_cons.1 h with h | h
      · exact .inr (by simp [h])
      · rcases setL_mem h with h | h
        · exact .inl h
        · exact .inr (by simp [h])
theorem look_key {k : List UInt8} : ∀ {es : List LB},(lookQ k (entsL es)).isSome = true ↔ k ∈ es.map (·.1)
  | [] => by simp [entsL,lookQ]
  | p :: es => by
    show (lookQ k ((p.1,p.2.1) :: entsL es)).isSome = true ↔ _
    rw [lookQ,List.map_cons,List.mem_cons]
    by_cases h : k = p.1
    · simp [h]
    · rw [if_neg h,look_key]
      simp [h]
theorem putL_keys (k : List UInt8) (v : Value) (d : List UInt8) (es : List LB) : (∀ x,x ∈ (putL k v d es).map (·.1) ↔ x = k ∨ x ∈ es.map (·.1)) ∧ ((es.map (·.1)).Nodup → ((putL k v d es).map (·.1)).Nodup):=by
  unfold putL
  split
  · rename_i h
    have hk:=look_key.1 h
    rw [setL_keys]
    exact ⟨fun x => ⟨.inr,fun hx => by rcases hx with rfl | hx; exact hk; exact hx⟩,id⟩
  · rename_i h
    have hk : k ∉ es.map (·.1):=fun hk => h (look_key.2 hk)
    rw [List.map_append,List.map_cons,List.map_nil]
    refine ⟨fun x => by simp [or_comm],fun hn => ?_⟩
    rw [List.nodup_append]
    exact ⟨hn,by simp,fun a ha b hb e => by simp at hb; subst hb; subst e; exact hk ha⟩
theorem putL_mem {k : List UInt8} {v : Value} {d : List UInt8} {es : List LB} {p : LB} (h : p ∈ putL k v d es) : p = (k,v,d) ∨ p ∈ es:=by
  unfold putL at h
  split at h
  · exact setL_mem h
  · rcases List.mem_append.1 h with h | h
    · exact .inr h
    · simp at h; exact .inl h
structure Laid (hist : List (List UInt8)) (es : List LB) : Prop where
  nodup : (es.map (·.1)).Nodup
  from_ : ∀ p ∈ es,p.1 = sha p.2.2 ∧ p.2.2 ∈ hist
  all : ∀ d ∈ hist,sha d ∈ es.map (·.1)
  len : es.length ≤ hist.length
theorem putL_len (k : List UInt8) (v : Value) (d : List UInt8) (es : List LB) : (putL k v d es).length ≤ es.length + 1:=by
  unfold putL
  split
  · have:=congrArg List.length (setL_keys k v d es)
    rw [List.length_map,List.length_map] at this
    omega
  · simp
theorem Laid.nil : Laid [] []:=⟨by simp,by simp,by simp,by simp⟩
theorem Laid.put {hist : List (List UInt8)} {es : List LB} (h : Laid hist es) (v : Value) (d : List UInt8) : Laid (hist ++ [d]) (putL (sha d) v d es) where
  nodup:=(putL_keys _ _ _ _).2 h.nodup
  from_:=fun p hp => by
    rcases putL_mem hp with rfl | hp
    · exact ⟨rfl,by simp⟩
    · obtain ⟨h1,h2⟩:=h.from_ p hp
      exact ⟨h1,by simp [h2]⟩
  all:=fun x hx => by
    rw [(putL_keys _ _ _ _).1]
    rcases List.mem_append.1 hx with hx | hx
    · exact .inr (h.all x hx)
    · simp at hx; subst hx; exact .inl rfl
  len:=by have h1:=putL_len (sha d) v d es; have h2:=h.len; rw [List.length_append,List.length_singleton]; omega
def datL (es : List LB) : HP:=fun h => ∀ p ∈ es,rdB p.2.1 p.2.2 h
abbrev bldParts (g gm : Nat) (es : List LB) : List HP:=[blk g 88 [.map (some gm)],mapQ idV ok32 gm (entsL es) none,datL es]
def bldP (g : Nat) (hist : List (List UInt8)) : HP:=fun h => ∃ q : Nat × List LB,Laid hist q.2 ∧ starL (bldParts g q.1 q.2) h
theorem closeBld {g gm : Nat} {hist : List (List UInt8)} {es : List LB} (hl : Laid hist es) {h : Hlt} (hs : starL (bldParts g gm es) h) : bldP g hist h:=⟨(gm,es),hl,hs⟩
theorem starL_le {Ps : List HP} {h : Hlt} (hs : starL Ps h) {φ : HP} (k : Nat) {P : HP} (hk : Ps[k]? = some P) (hφ : ∀ h',P h' → (∀ g o,h' g = some o → h g = some o) → φ h) : φ h:=by
  obtain ⟨f,h1,_,h3⟩:=hs
  exact hφ _ (h1 k P hk) (fun g o ho => h3 k g o ho)
theorem datL_put {es : List LB} {k d : List UInt8} {v : Value} {t : TypeId} {h : Hlt} (hs : starL [datL es,rowB t v d] h) : datL (putL k v d es) h:=fun p hp => by
  rcases putL_mem hp with rfl | hp
  · exact starL_le hs (φ:=rdB v d) 1 rfl fun h' h1 h2 => rdP_le h2 (rp9 h1)
  · exact starL_le hs (φ:=rdB p.2.1 p.2.2) 0 rfl fun h' h1 h2 => rdP_le h2 (h1 p hp)
theorem W_openBld {P : Program} {E : Env} {n : Nat} {K : Slots} {L : Res} {Q : Exit → Act → World → Prop} {c : Code} (r b : Nat) {g : Nat} {hist : List (List UInt8)} (hr : look L r = some (bldP g hist))
    (k : ∀ gm es,Laid hist es → W P E n c K (En b (bldParts g gm es) ++ (r,emp) :: L) Q) : W P E n c K L Q :=
  W_open (φ:=fun q : Nat × List LB => Laid hist q.2) (Ps:=fun q => bldParts g q.1 q.2) r b hr (fun h hp => hp) (fun q hq => k q.1 q.2 hq)
open Go.RowKit
set_option maxRecDepth 8000
theorem lay_spec (g : Nat) (hist : List (List UInt8)) (v : Value) (d : List UInt8) (hd : d.length ≤ 1000000) (F : HP) : CallsS Tryz.prog 92 #[.pointer (some ⟨g,0,none⟩),v] F [bldP g hist,rowB 5 v d] (fun r Ps => r = idV (sha d) ∧ Ps = [bldP g (hist ++ [d])]):=by
 refine callsS_enter Tryz.func92 rfl Tryz.ntmps92 (by simp) (fun E => ?_)
 refine Q9 (R9 (Lc9 rfl rfl (by decide) (OpT_alloc (r:=101) (cs:=(bs zeroId)) rfl (zero_run (by kernel_rfl : (Tryz.prog.info? 29).bind (·.zero) = some (.agg (bs zeroId).toArray))) rfl (fun g101 => (N9 (X9 (Q9 (R9 (M9 rfl rfl (Lc9 rfl rfl (by decide) (Oc9 200 [0,1,2,101] [] rfl Tryz.call72 rfl rfl rfl (by decide) (by decide) (sum_spec v d (by omega) _ (rs9 2 rfl (fun h hp => rp9 hp))) (fun v7 Ps7 hR7 => ?_))))))))))))
 obtain ⟨rfl,rfl⟩:=hR7
 refine (Lc9 rfl rfl (by decide) (OpT_alloc (r:=201) (cs:=(bs zeroId)) rfl (zero_run (by kernel_rfl : (Tryz.prog.info? 29).bind (·.zero) = some (.agg (bs zeroId).toArray))) rfl (fun g201 => (Lc09 rfl rfl (OpT_storeAll (r:=201) rfl Tryz.sizeOf29 rfl rfl rfl rfl ((bs_length _).trans (sha_length d)) (bs_one _) ?_)))))
 refine (N9 (X9 ?_))
 refine Q9 ?_
 refine W_openBld 1 600 rfl (fun gm es hl => ?_)
 refine W_draw (N:=7) (by kernel_rfl) rfl [(0,_),(101,_),(201,_),(600,_)] ⟨rfl,rfl,rfl,rfl,trivial⟩ ?_
 refine (T9 0 rfl rfl (Pm9 rfl rfl) (T9 1 rfl rfl (Pu_nilCheck rfl rfl) (T9 2 rfl rfl (F9 0 rfl rfl) (T9 3 rfl rfl (Pb9 (r:=600) rfl Tryz.isAgg86 rfl rfl rfl) (T9 4 rfl rfl (Px9 (r:=201) rfl Tryz.isAgg29 Tryz.sizeOf29 rfl rfl ((bs_length _).trans (sha_length d)) (load_all ((bs_length _).trans (sha_length d)))) (T9 5 rfl rfl (Pm9 rfl rfl) (Y9 [6] ?_)))))))
 refine Ac09 rfl rfl rfl (OpT_mapPutQ (r:=601) (k:=sha d) (v:=v) (es:=entsL es) (g:=gm) keyB rfl Tryz.underlying86 rfl rfl (sha_length d) rfl rfl ?_) ?_
 ·
  refine ⟨⟨rfl,rfl,rfl,rfl,trivial⟩,?_⟩
  refine (Ad9 (by kernel_rfl) (X9 ?_))
  refine Q9 (R9 (L9 rfl (Px9 (r:=201) rfl Tryz.isAgg29 Tryz.sizeOf29 rfl rfl ((bs_length _).trans (sha_length d)) (load_all ((bs_length _).trans (sha_length d)))) (Lc09 rfl rfl (OpT_storeAll (r:=101) rfl Tryz.sizeOf29 rfl rfl rfl rfl ((bs_length _).trans (sha_length d)) (bs_one _) ?_))))
  refine (N9 (X9 ?_))
  refine W_ret ?_
  refine X_turn (P':=mapQ idV ok32 gm (entsL (putL (sha d) v d es)) none) 601 rfl (fun h hp => by rw [← putQ_L]; exact hp) ?_
  refine X_join [602,2] 602 (datL (putL (sha d) v d es)) rfl (by decide) (fun h hs => datL_put hs) ?_
  refine X_join [600,601,602] 1 (bldP g (hist ++ [d])) rfl (by decide) (fun h hs => closeBld (hl.put v d) hs) ?_
  exact Xq9 [1] (Ps:=[_]) (resC1 (r:=101) Tryz.results92 rfl Tryz.isAgg29 Tryz.sizeOf29 rfl ((bs_length _).trans (sha_length d))) rfl (by decide) ⟨rfl,rfl⟩
 exact An9
open Go.RowKit
def notDefer : Op → Bool
  | .defer _ => false
  | _ => true
theorem notDefer_ne {o : Op} (h : notDefer o = true) : ∀ c,o ≠ .defer c:=by
  intro c e
  subst e
  cases h
theorem wpAnyIn_of {P : Program} {ops : Array Oper} {Q : Exit → Act → World → Prop} {md : Region.Mode} {ro : Option Nat} (hnd : ∀ (i : Nat) (o : Oper),ops[i]? = some o → ∀ c,o.op ≠ .defer c) (hno : ¬ LetsOut Q) :
    ∀ (fuel : Nat) (listed : Array Bool) (a : Act) (w : World),wpAny P md ops Q fuel listed a w → wpAnyIn (wideR ro) 0 P md ops Q fuel listed a w:=by
  intro fuel
  induction fuel with
  | zero => exact fun listed a w h => h
  | succ fuel ih =>
    intro listed a w ⟨h0,h1⟩
    refine ⟨h0,fun i hi => ?_⟩
    have h:=h1 i hi
    unfold wpOp at h
    unfold wpOpIn
    cases ho : ops[i]? with
    | none => rw [ho] at h; exact ih _ _ _ h
    | some o =>
      rw [ho] at h
      dsimp only at h ⊢
      split
      · rename_i hw
        rw [if_pos hw] at h
        rcases h with h | ⟨_,hl⟩
        · exact wpIn_of_wp (hnd i o ho) (Oper.wp_mono (fun a w => ih _ a w) h)
        · exact absurd hl hno
      · rename_i hw
        rw [if_neg hw] at h
        exact ⟨fun _ _ => trivial,ih _ _ _ h⟩
def OnlyN (Q : Exit → Act → World → Prop) : Exit → Act → World → Prop:=fun e a w => e = .normal ∧ Q .normal a w
section
variable {P : Program} {E : Env} {n : Nat} {K K' : Slots} {L L' : Res} {Q : Exit → Act → World → Prop} {ops : Array Oper} {o : Oper} {rest : List Oper} {c x y : Code} {ro : Option Nat}
theorem X_onlyN (h : X E n Q .normal K L) : X E n (OnlyN Q) .normal K L:=fun a w hA hS => ⟨rfl,h a w hA hS⟩
theorem WI_draw {id N : Nat} {l : List Oper} (hm : P.follows .mixedOrders = true) (hnd : l.all (fun o => notDefer o.op) = true) (hN : l.length = N) (S : Res) (hL : AllIn L S) (h : AH P E n l.toArray S N (Array.replicate N false) K L (OnlyN Q)) : WI P E n ro (.region id l.toArray true) K L Q:=fun a w hA hS => by
  have hsz : l.toArray.size = N:=by simpa using hN
  have h1:=wpAny_of_held _ _ _ _ (h a w.drew hA hS.drew (hS.sub hL.look).drew)
  have hno : ¬ LetsOut (NoPanic (OnlyN Q)):=by
    rintro ⟨a,w,hq⟩
    have : (.outgrown : Exit) = .normal:=hq.1
    cases this
  have hdf : ∀ (i : Nat) (o : Oper),l.toArray[i]? = some o → ∀ c,o.op ≠ .defer c:=fun i o ho => by
    have hm : o ∈ l:=by
      have:=List.mem_of_getElem? (by simpa using ho : l[i]? = some o)
      exact this
    exact notDefer_ne (List.all_eq_true.1 hnd o hm)
  have h2:=wpAnyIn_of (ro:=ro) hdf hno _ _ _ _ h1
  refine wpIn_mono (wpIn_region_any hm (by rw [hsz]; exact h2)) ?_
  intro e a w hq
  cases e with
  | normal => exact hq.2
  | _ => first | exact (hq : False).elim | (have:=hq.1; cases this)
theorem WI_seq (h : WI P E n ro x K L (Exit.then (y.wpIn (wideR ro) 0 P Q) Q)) : WI P E n ro (.seq x y) K L Q:=fun a w hA hS => wpIn_seq (h a w hA hS)
theorem XI_then (h : WI P E n ro y K L Q) : X E n (Exit.then (y.wpIn (wideR ro) 0 P Q) Q) .normal K L:=h
theorem WI.pre (h : WI P E n ro c K' L' Q) (hK : AllIn K K') (hL : AllIn L L') : WI P E n ro c K L Q:=fun a w hA hS => h a w (hA.sub hK.look) (hS.sub hL.look)
theorem WLI_turn {P' : HP} {l : List Oper} (r : Nat) {Pr : HP} (hr : look L r = some Pr) (hp : ∀ h,Pr h → P' h) (k : WLI P E n ro ops l K ((r,P') :: L) Q) : WLI P E n ro ops l K L Q:=fun a w hA hS => k a w hA (hS.cons hr hp)
end
section
variable {P : Program} {E : Env} {n : Nat} {ds : List Deferred} {a : Act} {K K' : Slots} {L L' : Res} {Q : Exit → Act → World → Prop} {ops : Array Oper} {o : Oper} {rest : List Oper} {c x y : Code}
theorem AgrD.eval (h : AgrD ds n K a) {x : Operand} {v : Value} (hx : evK K x = some v) : a.eval x = v:=by
  have hev : ({ a with defers:=[] } : Act).eval = a.eval:=by funext x; cases x <;> rfl
  rw [← hev]
  exact h.clear.eval hx
theorem AgrD.sub (h : AgrD ds n K a) (hs : ∀ k v,look K' k = some v → look K k = some v) : AgrD ds n K' a:=⟨h.1,h.2.1,fun k v hk => h.2.2 k v (hs k v hk)⟩
theorem W_of_WD (h : WD P E n [] c K L Q) : W P E n c K L Q:=h
theorem XD_then_exit {N : Act → World → Prop} {id : Nat} (h : XD E n ds Q (.exit id) K L) : XD E n ds (Exit.then N Q) (.exit id) K L:=h
theorem WD_block {id : Nat} (h : WD P E n ds c K L (Exit.inBlock id Q)) : WD P E n ds (.block id c) K L Q:=fun a w hA hS => wp_block (h a w hA hS)
theorem XD_block_exit {id : Nat} (h : XD E n ds Q .normal K L) : XD E n ds (Exit.inBlock id Q) (.exit id) K L:=fun a w hA hS => by
  simp only [Exit.inBlock,if_true]; exact h a w hA hS
theorem WD_skip (h : XD E n ds Q .normal K L) : WD P E n ds .skip K L Q:=fun a w hA hS => wp_skip (h a w hA hS)
theorem WD_exit {id : Nat} (h : XD E n ds Q (.exit id) K L) : WD P E n ds (.exit id) K L Q:=fun a w hA hS => wp_exit (h a w hA hS)
theorem WD_cond {c : Operand} {b : Bool} (hc : evK K c = some (.bool b)) (ht : b = true → WD P E n ds x K L Q) (hf : b = false → WD P E n ds y K L Q) : WD P E n ds (.cond c x y) K L Q :=
  fun a w hA hS => wp_cond_split (hA.eval hc) (fun h => ht h a w hA hS) (fun h => hf h a w hA hS)
theorem WD_loop {α : Type} (Df : α → List Deferred) (Kf : α → Slots) (Lf : α → Res) (φ : α → Prop) (μ : α → Nat) (x0 : α) (h0 : φ x0) (hD : Df x0 = ds) (hK : AllIn K (Kf x0)) (hL : AllIn L (Lf x0))
    (round : ∀ x,φ x → WD P E n (Df x) c (Kf x) (Lf x) (Exit.then (fun a w => ∃ y,φ y ∧ μ y < μ x ∧ AgrD (Df y) n (Kf y) a ∧ Sat E (Lf y) w) Q)) : WD P E n ds (.loop c) K L Q :=
  fun a w hA hS => wp_loop_any (fun x a w => φ x ∧ AgrD (Df x) n (Kf x) a ∧ Sat E (Lf x) w) μ (fun x a w ⟨hx,hA,hS⟩ => Code.wp_mono (fun e a' w' hq => by
    cases e with
    | normal => obtain ⟨y,y1,y2,y3,y4⟩:=hq; exact ⟨y,⟨y1,y3,y4⟩,y2⟩
    | _ => exact hq) (round x hx a w hA hS)) x0 a w ⟨h0,by rw [hD]; exact hA.sub hK.look,hS.sub hL.look⟩
theorem XD_round {α : Type} {Df : α → List Deferred} {Kf : α → Slots} {Lf : α → Res} {φ : α → Prop} {μ : α → Nat} {x : α} (y : α) (hy : φ y) (hm : μ y < μ x) (hD : Df y = ds) (hK : AllIn K (Kf y)) (hL : AllIn L (Lf y)) :
    XD E n ds (Exit.then (fun a w => ∃ y,φ y ∧ μ y < μ x ∧ AgrD (Df y) n (Kf y) a ∧ Sat E (Lf y) w) Q) .normal K L:=fun a w hA hS => ⟨y,hy,hm,by rw [hD]; exact hA.sub hK.look,hS.sub hL.look⟩
theorem wp_of_clear {o : Oper} {a : Act} {w : World} {Kc : Act → World → Prop} {Q : Exit → Act → World → Prop} (hd : a.defers = ds)
    (h : o.wp P { a with defers:=[] } w (fun a' w' => a'.defers = [] ∧ Kc { a' with defers:=ds } w') (fun e a' w' => Q e { a' with defers:=ds } w')) : o.wp P a w Kc Q:=by
  have hev : ({ a with defers:=[] } : Act).eval = a.eval:=by funext x; cases x <;> rfl
  have ha : ({ ({ a with defers:=[] } : Act) with defers:=ds } : Act) = a:=by subst hd; rfl
  have hp : ∀ v,({ (({ a with defers:=[] } : Act).put o.dst v) with defers:=ds } : Act) = a.put o.dst v:=fun v => by subst hd; cases hds : o.dst <;> simp [Act.put]
  unfold Oper.wp at h ⊢
  rw [hev] at h
  generalize (execOp a.eval o).run P w = res at h ⊢
  cases res with
  | ok nx w' =>
    cases nx with
    | value v => have h2 : Kc _ w':=h.2; rw [hp v] at h2; exact h2
    | skip => have h2 : Kc _ w':=h.2; rw [hp undef] at h2; exact h2
    | defer d => exact absurd h.1 (by cases o.dst <;> simp [Act.put])
    | enter f args =>
      refine Calls.mono (show Calls P f args w' _ from h) fun e w'' he => ?_
      cases e with
      | returned v => have h2 : Kc _ w'':=he.2; rw [hp v] at h2; exact h2
      | panicked chain => have h2 : Q _ _ w'':=he; exact ha ▸ h2
      | outgrown => first | exact he | (obtain ⟨a2,w2,h2⟩:=he; exact ⟨_,w2,h2⟩)
    | row r args => exact Rows.mono (show Rows P r args w' _ from h) fun v w'' he => by have h2 : Kc _ w'':=he.2; rw [hp v] at h2; exact h2
    | _ => exact h.elim
  | halt x w' =>
    cases x with
    | panic v => have h2 : Q _ _ w':=h; exact ha ▸ h2
    | _ => exact h.elim
theorem Dc9 {d : Nat} (hg : o.guard = none) (hd : o.dst = some d) (hn : d < n) (h : OpT P E n o K L (fun v L' => WLD P E n ds ops rest ((d,v) :: K) L' Q)) : WLD P E n ds ops (o :: rest) K L Q :=
  fun a w hA hS => wpList_plain hg fun Kc hK => wp_of_clear hA.1 (h { a with defers:=[] } w _ _ hA.clear hS fun v L' w' hC hS' => by
    have e : ({ (({ a with defers:=[] } : Act).put o.dst v) with defers:=ds } : Act) = a.put o.dst v:=by have:=hA.1; subst this; rw [hd]; simp [Act.put]
    refine ⟨by rw [hd]; simp [Act.put],?_⟩
    rw [e]
    exact hK _ _ (by rw [hd]; exact hC _ _ (hA.put hn v) hS'))
theorem WLD_cons0 (hg : o.guard = none) (hd : o.dst = none) (h : OpT P E n o K L (fun _ L' => WLD P E n ds ops rest K L' Q)) : WLD P E n ds ops (o :: rest) K L Q :=
  fun a w hA hS => wpList_plain hg fun Kc hK => wp_of_clear hA.1 (h { a with defers:=[] } w _ _ hA.clear hS fun v L' w' hC hS' => by
    have e : ({ (({ a with defers:=[] } : Act).put o.dst v) with defers:=ds } : Act) = a:=by have:=hA.1; subst this; rw [hd]; simp [Act.put]
    refine ⟨by rw [hd]; simp [Act.put],?_⟩
    rw [e]
    exact hK _ _ (hC _ _ hA hS'))
theorem WD_fact {r : Nat} {Pr : HP} {φ : Prop} (hr : look L r = some Pr) (hp : ∀ h,Pr h → φ) (k : φ → WD P E n ds c K L Q) : WD P E n ds c K L Q:=fun a w hA hS => k (hS.get hr hp) a w hA hS
theorem WD_turn {P' : HP} (r : Nat) {Pr : HP} (hr : look L r = some Pr) (hp : ∀ h,Pr h → P' h) (k : WD P E n ds c K ((r,P') :: L) Q) : WD P E n ds c K L Q:=fun a w hA hS => k a w hA (hS.cons hr hp)
theorem XD_turn {e : Exit} (r : Nat) {Pr P' : HP} (hr : look L r = some Pr) (hp : ∀ h,Pr h → P' h) (k : XD E n ds Q e K ((r,P') :: L)) : XD E n ds Q e K L:=fun a w hA hS => k a w hA (hS.cons hr hp)
theorem lookL_of {L : Res} : ∀ {ids : List Nat} {Ps : List HP},LookAll L ids Ps → lookL L ids = some Ps
  | [],[],_ => rfl
  | [],_ :: _,h => h.elim
  | _ :: _,[],h => h.elim
  | r :: ids,P :: Ps,h => by rw [lookL,h.1,lookL_of h.2]
theorem WD_join (J : List Nat) {Js : List HP} (r : Nat) (P' : HP) (hJ : lookL L J = some Js) (hn : J.Nodup) (hP : ∀ h,starL Js h → P' h) (k : WD P E n ds c K ((r,P') :: (J.map (·,emp) ++ L)) Q) : WD P E n ds c K L Q:=fun a w hA hS => k a w hA (hS.join r (.of hJ) hn hP)
theorem XD_join {e : Exit} (J : List Nat) {Js : List HP} (r : Nat) (P' : HP) (hJ : lookL L J = some Js) (hn : J.Nodup) (hP : ∀ h,starL Js h → P' h) (k : XD E n ds Q e K ((r,P') :: (J.map (·,emp) ++ L))) : XD E n ds Q e K L:=fun a w hA hS => k a w hA (hS.join r (.of hJ) hn hP)
theorem XD_ren {e : Exit} (r b : Nat) {Pr : HP} (hr : look L r = some Pr) (k : XD E n ds Q e K ((b,Pr) :: (r,emp) :: L)) : XD E n ds Q e K L:=fun a w hA hS => k a w hA (hS.split (b:=b) (Ps:=[Pr]) hr fun h hp => starL_one hp)
theorem XD_open {e : Exit} {α : Type} {φ : α → Prop} {Ps : α → List HP} (r b : Nat) {Pr : HP} (hr : look L r = some Pr) (hp : ∀ h,Pr h → ∃ x,φ x ∧ starL (Ps x) h) (k : ∀ x,φ x → XD E n ds Q e K (En b (Ps x) ++ (r,emp) :: L)) : XD E n ds Q e K L:=fun a w hA hS => by
  obtain ⟨x,hS2⟩:=hS.ex hr (Q:=fun x h => φ x ∧ starL (Ps x) h) hp
  have hx:=hS2.get (look_same _ _ _) fun h hp => hp.1
  have hS3:=hS2.split (b:=b) (Ps:=Ps x) (look_same _ _ _) fun h hp => hp.2
  refine k x hx a w hA (hS3.sub fun r' P' h => ?_)
  rw [look_append] at h ⊢
  cases hl : look (En b (Ps x)) r' with
  | some X => rw [hl] at h; exact h
  | none =>
    rw [hl] at h
    simp only [Option.none_or] at h ⊢
    by_cases hrr : r = r'
    · subst hrr; rw [look_same] at h ⊢; exact h
    · rw [look_other hrr] at h; rw [look_other hrr,look_other hrr]; exact h
theorem WLI_pure {ro : Option Nat} {d : Nat} {v : Value} (hnd : notDefer o.op = true) (hg : o.guard = none) (hd : o.dst = some d) (hn : d < n) (h : Pure P E n o K L v) (k : WLI P E n ro ops rest ((d,v) :: K) L Q) : WLI P E n ro ops (o :: rest) K L Q:=WLI_cons (notDefer_ne hnd) hg hd hn (Or9 h k)
theorem WD_nilRow (r : Nat) (t : TypeId) (size : Nat) (h : WD P E n ds c K ((r,rowP t size (.slice none 0 0) 0 []) :: L) Q) : WD P E n ds c K L Q:=fun a w hA hS => h a w hA (hS.nilRow r t size)
def marks (Ds : List Nat) : List Deferred:=Ds.map fun D => { target:=.collected D,args:=#[] }
def marksP (Ds : List Nat) : HP:=fun h => Ds.Nodup ∧ ∀ D ∈ Ds,h D = some (.deferred (some []))
theorem marks_more {D : Nat} {Ds : List Nat} {h : Hlt} (hs : starL [objP D (.deferred (some [])),marksP Ds] h) : marksP (D :: Ds) h:=by
  obtain ⟨f,h1,h2,h3⟩:=hs
  have a0:=h1 0 _ rfl
  have a1:=h1 1 _ rfl
  refine ⟨List.nodup_cons.2 ⟨fun hm => ?_,a1.1⟩,fun x hx => ?_⟩
  · have q1 : f 0 D = some (.deferred (some [])):=a0
    have q2:=a1.2 D hm
    have:=h2 0 1 D (by decide) (by rw [q1]; rfl)
    rw [this] at q2
    cases q2
  · rcases List.mem_cons.1 hx with rfl | hx
    · exact h3 0 _ _ a0
    · exact h3 1 _ _ (a1.2 x hx)
theorem XD_retMs {fn : Func} {F : HP} {R : Value → List HP → Prop} (r : Nat) {v : Value} {Ps : List HP} {J : List Nat} :
    ∀ {Ds : List Nat} {L : Res} (hD : look L r = some (marksP Ds)) (hres : ∀ a w,Agr n K a → Sat E ((r,emp) :: L) w → (results fn a.tmps).run P w = .ok v w) (hR : R v Ps) (hJ : lookL L J = some (F :: Ps)) (hn : J.Nodup) (hrJ : r ∉ J),
    XD E n (marks Ds) (bodyPostM Fence.wide 0 P fn (Ret E F R)) .ret K L:=by
  intro Ds
  induction Ds with
  | nil =>
    intro L hD hres hR hJ hn hrJ a w hA hS
    show LeavesInM Fence.wide 0 P fn a.tmps (Ret E F R) a.defers .returning w
    rw [hA.1]
    have hS2 : Sat E ((r,emp) :: L) w:=hS.cons hD (fun h _ => trivial)
    refine ⟨v,hres { a with defers:=[] } w hA.clear hS2,v,Ps,rfl,hR,?_⟩
    exact hS2.pick ((LookAll.of hJ).same fun j hj => look_other (fun e => hrJ (by rw [e]; exact hj)) _ _) hn
  | cons D Ds ih =>
    intro L hD hres hR hJ hn hrJ a w hA hS
    show LeavesInM Fence.wide 0 P fn a.tmps (Ret E F R) a.defers .returning w
    rw [hA.1]
    have hd : w.heap[D]? = some (.deferred (some [])):=by
      obtain ⟨h,hp,hi⟩:=hS.read hD
      exact hi _ _ (hp.2 D (by simp))
    refine ⟨fun h => (by cases h),.inl ⟨D,_,rfl,run_takeDeferred hd,?_⟩⟩
    have hS2 : Sat E ((r,marksP Ds) :: L) (w.putObj D (.deferred none)):=hS.step hD fun h hp hin => by
      have hlt:=lt_of_heap (hin _ _ (hp.2 D (by simp)))
      have hnd:=List.nodup_cons.1 hp.1
      refine ⟨[D],fun g => if g = D then none else h g,by simp [hp.2 D (by simp)],⟨rfl,rfl,rfl,by simp [World.putObj],fun k hk hm => World.putObj_heap_other (by simpa using hm)⟩,⟨hnd.2,fun x hx => ?_⟩,fun g o hg => ?_,fun g hg => ?_⟩
      · have hne : x ≠ D:=fun e => hnd.1 (e ▸ hx)
        simp only [hne,if_false]
        exact hp.2 x (by simp [hx])
      · by_cases hgd : g = D
        · simp [hgd] at hg
        · simp only [hgd,if_false] at hg
          rw [World.putObj_heap_other hgd]
          exact hin _ _ hg
      · by_cases hgd : g = D
        · simp [hgd] at hg
        · simp only [hgd,if_false] at hg; exact .inl hg
    have key:=ih (L:=(r,marksP Ds) :: L) (look_same _ _ _) (fun a' w' hA' hS' => hres a' w' hA' (hS'.sub fun r' P' hl => by
      by_cases hrr : r = r'
      · subst hrr; rw [look_same] at hl ⊢; exact hl
      · rw [look_other hrr] at hl ⊢; rw [look_other hrr]; exact hl)) hR (by
        have:=(LookAll.of hJ).same (L':=(r,marksP Ds) :: L) fun j hj => look_other (fun e => hrJ (by rw [e]; exact hj)) _ _
        exact lookL_of this) hn hrJ { a with defers:=marks Ds } _ ⟨rfl,hA.2.1,hA.2.2⟩ hS2
    exact key
theorem WD_rangeFunc {ds : List Deferred} {α Y : Type} {g : Operand} {p gf N : Nat} {lb : Array Value} {assign body : Code} {enc : α → Value} {G : List α → HP} {S : List α → Prop} {Cs Cs' : List HP}
    (hg : evK K g = some (.func (.func gf) #[] lb)) (hp : p < n) (eg : ∀ args w,(callFunc gf args).run P w = .ok (.enter gf args) w)
    (J : List Nat) {Js : List HP} (r0 : Nat) (J2 : List Nat) (b : Nat) (hJ : lookL L J = some Js) (hr0 : look L r0 = some (G [])) (hJ2 : lookL L J2 = some Cs) (hnd : (J ++ r0 :: J2).Nodup) (hb : ∀ j ∈ J ++ r0 :: J2,j < b)
    (hseq : ∀ F,SeqS P gf lb enc N F Cs S Cs')
    (Km : α → Y → Slots) (Lm : HP → HP → List α → α → Y → Res) (hLm : ∀ F LP pre x y,look (Lm F LP pre x y) 2 = some LP)
    (hassign : ∀ E' F l LP pre x,pre.length < N → WI P E' n (some l) assign ((p,enc x) :: K) (En 0 [F,G pre,LP]) (Exit.then (fun a w => ∃ y,Agr n (Km x y) a ∧ Sat E' (Lm F LP pre x y) w) (fun _ _ _ => False)))
    (hbody : ∀ E' F l LP LP' pre x y,pre.length < N → WI P E' n (some l) body (Km x y) ((2,LP') :: Lm F LP pre x y) (fun e _ w => e = .normal ∧ Sat E' (En 0 [F,G (pre ++ [x]),LP']) w))
    (k : ∀ D xs Lp Lp',S xs → XD E n ({ target:=.collected D,args:=#[] } :: ds) Q .normal K ((b + 31,Lp') :: (En (b + 30) [G xs,Lp] ++ (b + 10,emp) :: (En (b + 10) (starL [G xs,Lp] :: Cs') ++ zipR (J ++ [b]) (Js ++ [objP D (.deferred (some []))]))))) :
    WD P E n ds (.rangeFunc g #[p] assign body) K L Q:=by
  intro a w hA hS
  refine (wpIn_wide (n:=0)).1 (wpIn_rangeFunc ?_)
  intro fn _
  obtain ⟨rec,hrec⟩ : ∃ rec : LoopState → Option Code → Loop,rec = fun st pe => { state:=st,pending:=pe,fn,tmps:=a.tmps,params:=#[p],assign,body,defers:=w.heap.size }:=⟨_,rfl⟩
  have hS2 : Sat E ((b + 1,objP (w.heap.size + 1) (.loop (rec .ready none))) :: (b,objP w.heap.size (.deferred (some []))) :: L) ((w.alloc (.deferred (some []))).alloc (.loop (rec .ready none))):=by
    have h1:=(hS.newObj b (.deferred (some []))).newObj (b + 1) (.loop (rec .ready none))
    rw [World.size_alloc] at h1
    exact h1
  have hround : RoundS P (w.heap.size + 1) enc (fun pre => starL [G pre,objP (w.heap.size + 1) (.loop (rec .ready none))]) N:=by
    intro E' F pre x w1 hlen hS3
    have hS4:=(hS3.split (r:=1) (b:=2) (Ps:=[G pre,objP (w.heap.size + 1) (.loop (rec .ready none))]) rfl (fun h hh => hh)).pick (ids:=[0,2,3]) (Ps:=[F,G pre,objP (w.heap.size + 1) (.loop (rec .ready none))]) ⟨rfl,rfl,rfl,trivial⟩ (by decide)
    have hl:=hS4.obj (r:=2) rfl
    have hy:=run_yield (P:=P) (args:=#[enc x]) hl (by rw [hrec]; rfl)
    rw [hrec] at hy
    refine ⟨fn,_,assign,body,hy,roundIn_of_wpIn trivial ?_⟩
    have hag : Agr n ((p,enc x) :: K) { tmps:=(#[p].zip #[enc x]).foldl (fun t (p,v) => t.setIfInBounds p v) a.tmps,defers:=[] }:=by
      have:=hA.put hp (enc x)
      refine ⟨rfl,by simpa using hA.2.1,fun k v hk => ?_⟩
      simpa [Act.put] using this.2.2 k v hk
    refine wpIn_mono (hassign E' F (w.heap.size + 1) _ pre x hlen _ w1 hag hS4) ?_
    rintro e a2 w2 hq
    cases e with
    | normal =>
      obtain ⟨y,hA2,hSy⟩:=hq
      have hl2:=hSy.obj (hLm _ _ _ _ _)
      refine ⟨_,run_beginRound hl2 (by rw [hrec]),?_⟩
      refine wpIn_mono (hbody E' F (w.heap.size + 1) _ _ pre x y hlen a2 _ hA2 (hSy.put (hLm _ _ _ _ _) _)) ?_
      rintro e3 a3 w3 ⟨rfl,hS5⟩
      have hl3:=hS5.obj (r:=2) rfl
      have her:=run_endRound (P:=P) none hl3
      refine ⟨_,_,her,rfl,?_⟩
      have hS6:=hS5.put (r:=2) rfl (.loop (rec .ready none))
      have hS7:=(hS6.pack (J:=[1,2]) (Js:=[G (pre ++ [x]),objP (w.heap.size + 1) (.loop (rec .ready none))]) (C:=[0]) (Cs:=[F]) ⟨rfl,rfl,trivial⟩ ⟨rfl,trivial⟩ (by decide)).pick (ids:=[1,0]) (Ps:=[F,starL [G (pre ++ [x]),objP (w.heap.size + 1) (.loop (rec .ready none))]]) ⟨rfl,rfl,trivial⟩ (by decide)
      rw [hrec] at hS7 ⊢
      exact hS7
    | ret => exact hq.elim
    | exit id => exact hq.elim
    | goto t => exact hq.elim
    | panic ch => exact hq.elim
    | outgrown => exact hq.elim
  have hneb : ∀ j ∈ J ++ r0 :: J2,j ≠ b + 1 ∧ j ≠ b + 2 ∧ j ≠ b:=fun j hj => by have:=hb j hj; omega
  have hr0b:=hb r0 (by simp)
  have hS8:=hS2.join (b + 2) (J:=[r0,b + 1]) (Js:=[G [],objP (w.heap.size + 1) (.loop (rec .ready none))]) (P':=starL [G [],objP (w.heap.size + 1) (.loop (rec .ready none))])
    ⟨by rw [look_other (by omega),look_other (by omega)]; exact hr0,look_same _ _ _,trivial⟩ (by simp; omega) (fun h hh => hh)
  have hfar : ∀ j,j ∈ J ∨ j ∈ J2 → look ((b + 2,starL [G [],objP (w.heap.size + 1) (.loop (rec .ready none))]) :: ([r0,b + 1].map (·,emp) ++ (b + 1,objP (w.heap.size + 1) (.loop (rec .ready none))) :: (b,objP w.heap.size (.deferred (some []))) :: L)) j = look L j:=by
    intro j hj
    have h1:=hneb j (by rcases hj with hj | hj <;> simp [hj])
    have h2 : r0 ≠ j:=by
      rintro rfl
      rw [List.nodup_append] at hnd
      rcases hj with hj | hj
      · exact hnd.2.2 r0 hj r0 (by simp) rfl
      · exact (List.nodup_cons.1 hnd.2.1).1 hj
    simp only [List.map_cons,List.map_nil,List.cons_append,List.nil_append]
    rw [look_other (by omega),look_other h2,look_other (by omega),look_other (by omega),look_other (by omega)]
  have hnd2 : (J ++ [b] ++ (b + 2) :: J2).Nodup:=by
    simp only [List.append_assoc,List.cons_append,List.nil_append]
    rw [List.nodup_append] at hnd ⊢
    obtain ⟨n1,n2,n3⟩:=hnd
    refine ⟨n1,?_,fun x hx y hy hxy => ?_⟩
    · simp only [List.nodup_cons,List.mem_cons,not_or]
      refine ⟨⟨by omega,fun h => ?_⟩,fun h => ?_,(List.nodup_cons.1 n2).2⟩
      · exact (hneb b (by simp [h])).2.2 rfl
      · exact (hneb (b + 2) (by simp [h])).2.1 rfl
    · subst hxy
      rcases List.mem_cons.1 hy with h | hy
      · exact (hneb x (by simp [hx])).2.2 h
      · rcases List.mem_cons.1 hy with h | hy
        · exact (hneb x (by simp [hx])).2.1 h
        · exact n3 x hx x (by simp [hy]) rfl
  have hJb : LookAll ((b + 2,starL [G [],objP (w.heap.size + 1) (.loop (rec .ready none))]) :: ([r0,b + 1].map (·,emp) ++ (b + 1,objP (w.heap.size + 1) (.loop (rec .ready none))) :: (b,objP w.heap.size (.deferred (some []))) :: L)) (J ++ [b]) (Js ++ [objP w.heap.size (.deferred (some []))]) :=
    LookAll.append ((LookAll.of hJ).same fun j hj => hfar j (.inl hj)) ⟨by
      simp only [List.map_cons,List.map_nil,List.cons_append,List.nil_append]
      rw [look_other (by omega),look_other (by omega),look_other (by omega),look_other (by omega),look_same],trivial⟩
  have hS9:=hS8.pack hJb (C:=(b + 2) :: J2) (Cs:=starL [G [],objP (w.heap.size + 1) (.loop (rec .ready none))] :: Cs) ⟨look_same _ _ _,(LookAll.of hJ2).same fun j hj => hfar j (.inr hj)⟩ hnd2
  have hent : (Instr.enterLoop fn a.tmps #[p] assign body none).run P w = .ok (w.heap.size + 1,[{ target:=.collected w.heap.size,args:=#[] }]) ((w.alloc (.deferred (some []))).alloc (.loop (rec .ready none))):=by rw [hrec]; exact run_enterLoop_outer _ _ _ _ _
  refine ⟨w.heap.size + 1,[{ target:=.collected w.heap.size,args:=#[] }],(w.alloc (.deferred (some []))).alloc (.loop (rec .ready none)),{ target:=.fn (.func gf) lb,args:=#[.func (.yield (w.heap.size + 1)) #[] #[]] },(w.alloc (.deferred (some []))).alloc (.loop (rec .ready none)),gf,#[.func (.yield (w.heap.size + 1)) #[] #[]] ++ lb,(w.alloc (.deferred (some []))).alloc (.loop (rec .ready none)),hent,?_,fun _ _ => trivial,?_,fun h => by simp [Fence.wide] at h,?_⟩
  · simp only [resolve,hA.eval hg]
    simp [Act.eval,Deferred.ofValue]
  · simp [invoke,eg]
  · have hcall:=hseq _ (w.heap.size + 1) _ hround E _ hS9
    refine (callsIn_wide.2 hcall).mono ?_
    rintro e w3 ⟨v,Ps,rfl,⟨xs,hxs,rfl⟩,hS10⟩
    have hndJ : (J ++ [b]).Nodup:=by rw [List.nodup_append] at hnd2; exact hnd2.1
    have hS11:=hS10.unpack (b + 10) hndJ (fun j hj => by
      rcases List.mem_append.1 hj with hj | hj
      · have:=hb j (by simp [hj]); omega
      · simp at hj; omega)
    have hS12:=hS11.split (r:=b + 10) (b:=b + 30) (Ps:=[G xs,objP (w.heap.size + 1) (.loop (rec .ready none))]) (by simp [En,look]) (fun h hh => hh)
    have hlk : look (En (b + 30) [G xs,objP (w.heap.size + 1) (.loop (rec .ready none))] ++ (b + 10,emp) :: (En (b + 10) (starL [G xs,objP (w.heap.size + 1) (.loop (rec .ready none))] :: Cs') ++ zipR (J ++ [b]) (Js ++ [objP w.heap.size (.deferred (some []))]))) (b + 31) = some (objP (w.heap.size + 1) (.loop (rec .ready none))):=by
      rw [look_append,show b + 31 = (b + 30) + 1 from rfl,look_En _ (b + 30) 1]
      rfl
    have hl:=hS12.obj hlk
    refine ⟨_,_,run_endLoop hl (by rw [hrec]; simp),?_⟩
    rw [show (rec .ready none).pending = none by rw [hrec]]
    have hA' : AgrD ({ target:=.collected w.heap.size,args:=#[] } :: ds) n K { a with defers:=[{ target:=.collected w.heap.size,args:=#[] }] ++ a.defers }:=⟨by simp [hA.1],hA.2.1,hA.2.2⟩
    exact k w.heap.size xs _ _ hxs _ _ hA' (hS12.put hlk _)
end
open Go.RowKit
section
variable {P : Program} {E : Env} {n : Nat} {K : Slots} {L : Res} {o : Oper} {C : Value → Res → Prop}
theorem OpT_makeLen {t e r : Nat} (m c : Nat) {x y : Operand} {i : TypeInfo} {z : Value} {kl kc : IntKind} (ho : o.op = .makeSlice t x y) (ht : P.underlying t = some (.slice e)) (hi : P.info? e = some i) (hz : i.zero = some z) (hsize : i.size = 1) (hz1 : z.cells = #[z])
    (hx : evK K x = some (.int kl (m : Int))) (hy : evK K y = some (.int kc (c : Int))) (hmc : m ≤ c) (hb : i.bytes * c ≤ 281474976710656) (hm : c ≤ maxLen) (k : ∀ v,C v ((r,rowP e 1 v m (List.replicate m z)) :: L)) : OpT P E n o K L C:=fun a w Kc Q hA hS hK => by
  have h63' : (c : Int) ≤ 9223372036854775807:=by
    have h:=hm
    simp [maxLen] at h
    omega
  have hb' : (i.bytes : Int) * (c : Int) ≤ 281474976710656:=by
    have h : ((i.bytes * c : Nat) : Int) ≤ 281474976710656:=by omega
    rwa [Int.natCast_mul] at h
  have hrun:=run_make (P:=P) w t e i z ht hi hz kl kc m c (by omega) (by omega) hb' h63'
  simp only [Int.toNat_natCast] at hrun
  unfold Oper.wp execOp
  simp only [ho,hA.eval hx,hA.eval hy,Sem.run_bind,hrun,Result.andThen_ok,Sem.run_pure]
  refine hK _ _ _ (k _) ?_
  have hS2:=hS.blk r e (madeCells z.cells (c * i.size))
  have hS3:=hS2.cons (P':=rowP e 1 (.slice (some ⟨w.heap.size,0,none⟩) m c) m (List.replicate m z)) (look_same r _ L) (fun h hb => by
    refine ⟨by simp,.inr ⟨_,c,madeCells z.cells (c * i.size),rfl,?_,hmc,hm,by simp [size_madeCells,hsize],?_⟩⟩
    · unfold Proofs.YthkdkmaacjpneaaGreatDoor.blk at hb
      simpa using hb
    · rw [hz1]
      apply List.ext_getElem
      · simp [madeCells,hsize,hmc]
      · intro j h1 h2
        simp [madeCells,hsize,Nat.mod_one])
  exact hS3.sub (fun r' P' h => by
    by_cases hr : r = r'
    · subst hr; rw [look_same] at h ⊢; exact h
    · rw [look_other hr] at h; rw [look_other hr,look_other hr]; exact h)
end
theorem rowB_mk {e m : Nat} {v : Value} {xs : List Value} {l : List UInt8} {h : Hlt} (hp : rowP e 1 v m xs h) (hm : m = l.length) (hx : xs = bs l) : rowB e v l h:=by subst hm; subst hx; exact hp
section
variable {P : Program} {E : Env} {n : Nat} {K : Slots} {L : Res} {Q : Exit → Act → World → Prop} {ops : Array Oper} {C : Exit → Act → World → Prop}
theorem AH_turn {P' : HP} {S : Res} {fuel : Nat} {listed : Array Bool} (r : Nat) {Pr : HP} (hr : look L r = some Pr) (hp : ∀ h,Pr h → P' h) (k : AH P E n ops S fuel listed K ((r,P') :: L) Q) : AH P E n ops S fuel listed K L Q:=fun a w hA hS hh => k a w hA (hS.cons hr hp) hh
theorem Lt9 {P' : HP} {l : List Oper} (r : Nat) {Pr : HP} (hr : look L r = some Pr) (hp : ∀ h,Pr h → P' h) (k : WL P E n ops l K ((r,P') :: L) Q) : WL P E n ops l K L Q:=fun a w hA hS => k a w hA (hS.cons hr hp)
end
def blkD (d : List UInt8) (j : Nat) : List UInt8:=100 :: (d.drop (j * 64)).take 64
def rowsD (d : List UInt8) : List (List UInt8):=(List.range ((d.length + 63) / 64)).map (blkD d)
def blkI (l : List (List UInt8)) (j : Nat) : List UInt8:=innerR ((l.drop (j * 8)).take 8)
def rowsI (l : List (List UInt8)) : List (List UInt8):=(List.range ((l.length + 7) / 8)).map (blkI l)
def above : Nat → List (List UInt8) → List (List UInt8) × Nat × List (List UInt8)
  | 0,l => ([],0,l)
  | f + 1,l => if 1 < l.length then (rowsI l ++ (above f ((rowsI l).map sha)).1,(above f ((rowsI l).map sha)).2.1 + 1,(above f ((rowsI l).map sha)).2.2) else ([],0,l)
def aboveD (d : List UInt8) : List (List UInt8) × Nat × List (List UInt8):=above (d.length + 1) ((rowsD d).map sha)
def topF (d : List UInt8) : List UInt8:=(aboveD d).2.2.getD 0 zeroId
def nodeF (kind : Int) (d : List UInt8) : List UInt8:=inodeR kind (d.length : Int) ((aboveD d).2.1 : Int) (topF d)
def blocksF (kind : Int) (d : List UInt8) : List (List UInt8):=rowsD d ++ (aboveD d).1 ++ [nodeF kind d]
def idF (kind : Int) (d : List UInt8) : List UInt8:=sha (nodeF kind d)
theorem ids_sha (l : List (List UInt8)) : Ids (l.map sha):=by
  intro y hy
  obtain ⟨x,_,rfl⟩:=List.mem_map.1 hy
  exact sha_length _
theorem above_small {f : Nat} {l : List (List UInt8)} (h : ¬ 1 < l.length) : above f l = ([],0,l):=by
  cases f with
  | zero => rfl
  | succ f => rw [above,if_neg h]
theorem above_big {f : Nat} {l : List (List UInt8)} (h : 1 < l.length) : above (f + 1) l = (rowsI l ++ (above f ((rowsI l).map sha)).1,(above f ((rowsI l).map sha)).2.1 + 1,(above f ((rowsI l).map sha)).2.2):=by rw [above,if_pos h]
theorem rowsI_length (l : List (List UInt8)) : (rowsI l).length = (l.length + 7) / 8:=by simp [rowsI]
theorem rowsD_length (d : List UInt8) : (rowsD d).length = (d.length + 63) / 64:=by simp [rowsD]
structure Up (d : List UInt8) (bl : List (List UInt8)) (lv f : Nat) (l : List (List UInt8)) : Prop where
  ids : Ids l
  blocks : bl ++ (above f l).1 = rowsD d ++ (aboveD d).1
  levels : lv + (above f l).2.1 = (aboveD d).2.1
  top : (above f l).2.2 = (aboveD d).2.2
  fuel : l.length ≤ f
theorem Up.start (d : List UInt8) : Up d (rowsD d) 0 (d.length + 1) ((rowsD d).map sha) where
  ids:=ids_sha _
  blocks:=rfl
  levels:=Nat.zero_add _
  top:=rfl
  fuel:=by rw [List.length_map,rowsD_length]; omega
theorem Up.step {d : List UInt8} {bl : List (List UInt8)} {lv f : Nat} {l : List (List UInt8)} (h : Up d bl lv (f + 1) l) (hl : 1 < l.length) : Up d (bl ++ rowsI l) (lv + 1) f ((rowsI l).map sha) where
  ids:=ids_sha _
  blocks:=by rw [← h.blocks,above_big hl,List.append_assoc]
  levels:=by rw [← h.levels,above_big hl]; show lv + 1 + (above f ((rowsI l).map sha)).2.1 = lv + ((above f ((rowsI l).map sha)).2.1 + 1); omega
  top:=by rw [← h.top,above_big hl]
  fuel:=by have:=h.fuel; rw [List.length_map,rowsI_length]; omega
theorem Up.done {d : List UInt8} {bl : List (List UInt8)} {lv f : Nat} {l : List (List UInt8)} (h : Up d bl lv f l) (hl : ¬ 1 < l.length) : bl = rowsD d ++ (aboveD d).1 ∧ lv = (aboveD d).2.1 ∧ l = (aboveD d).2.2:=by
  have h1:=h.blocks
  have h2:=h.levels
  have h3:=h.top
  rw [above_small hl] at h1 h2 h3
  exact ⟨by rw [← h1,List.append_nil],by omega,h3⟩
theorem pieces_all {n k m : Nat} {α : Type} {f : Nat → α} {xs : List {j : Nat // j * k < n}} (hk : 0 < k) (h1 : xs.map (·.1) = List.range xs.length) (h2 : n ≤ xs.length * k) (h3 : (xs.length - 1) * k < n ∨ xs.length = 0) (hm : (n + (k - 1)) / k = m) : xs.map (fun j => f j.1) = (List.range m).map f:=by
  have hlen : xs.length = m:=by
    subst hm
    have e : (n + (k - 1)) / k = xs.length:=by
      rcases h3 with h3 | h3
      · have hpos : 0 < xs.length:=by
          rcases Nat.eq_zero_or_pos xs.length with h0 | h0
          · rw [h0] at h2; rw [h0] at h3; simp at h2 h3; omega
          · exact h0
        apply Nat.div_eq_of_lt_le
        · have : xs.length * k = (xs.length - 1) * k + k:=by
            conv => lhs; rw [show xs.length = (xs.length - 1) + 1 by omega,Nat.add_mul,Nat.one_mul]
          omega
        · rw [Nat.add_mul,Nat.one_mul]; omega
      · rw [h3] at h2 ⊢
        have : n = 0:=by omega
        subst this
        exact Nat.div_eq_of_lt (by omega)
    exact e.symm
  show xs.map (f ∘ (·.1)) = _
  rw [← List.map_map,h1,hlen]
def accP (F0 : HP) (g g3 gl : Nat) (hist bl : List (List UInt8)) : HP:=fun h => ∃ v : Value,v.oneCell' = true ∧ starL [F0,bldP g (hist ++ bl),blk g3 85 [.pointer (some ⟨g,0,none⟩)],blk gl 165 [v],rowI 29 v (bl.map sha)] h
open Go.RowKit
set_option maxRecDepth 8000
theorem rd_sh {v : Value} {d : List UInt8} {h : Hlt} (hr : rdB v d h) : ∃ A c,v = .slice A d.length c ∧ d.length ≤ c:=by
  obtain ⟨_,A,c,h2,h3,_⟩:=hr
  exact ⟨A,c,h2,h3⟩
theorem rdI_sh {v : Value} {l : List (List UInt8)} {h : Hlt} (hr : rdI v l h) : ∃ A c,v = .slice A l.length c ∧ l.length ≤ c:=by
  obtain ⟨_,A,c,h2,h3,_⟩:=hr
  exact ⟨A,c,h2,h3⟩
theorem chB_rd {d : List UInt8} {A : Option Addr} {c j : Nat} {h : Hlt} (hr : rdB (.slice A d.length c) d h) (hj : j * 64 < d.length) : rdB (chV 1 64 d.length j A) ((d.drop (j * 64)).take 64) h:=by
  have h1:=chV_rd hr hj (by decide)
  have hl : chN 64 d.length j = ((d.drop (j * 64)).take 64).length:=by unfold chN; rw [List.length_take,List.length_drop]
  refine rdP_cast h1 ?_ hl
  rw [Nat.mul_one,Nat.mul_one,← bs_drop,← bs_take]
  congr 1
  unfold chN
  rw [List.take_eq_take_iff,List.length_drop]
  omega
theorem chI_rd {l : List (List UInt8)} (hi : Ids l) {A : Option Addr} {c j : Nat} {h : Hlt} (hr : rdI (.slice A l.length c) l h) (hj : j * 8 < l.length) : rdI (chV 32 8 l.length j A) ((l.drop (j * 8)).take 8) h:=by
  have h1:=chV_rd hr hj (by decide)
  have hl : chN 8 l.length j = ((l.drop (j * 8)).take 8).length:=by unfold chN; rw [List.length_take,List.length_drop]
  have hd : Ids (l.drop (j * 8)):=fun y hy => hi y (List.mem_of_mem_drop hy)
  refine rdP_cast h1 ?_ hl
  rw [idsC_drop hi,idsC_take hd]
  congr 1
  unfold chN
  rw [List.take_eq_take_iff,List.length_drop]
  omega
theorem rowI_mk {e : TypeId} {v : Value} {l : List (List UInt8)} {m : Nat} {xs : List Value} {h : Hlt} (hp : rowP e 32 v m xs h) (hm : m = l.length) (hx : xs = idsC l) : rowI e v l h:=by subst hm; subst hx; exact hp
theorem blkD_len (d : List UInt8) (j : Nat) : (blkD d j).length ≤ 65:=by unfold blkD; rw [List.length_cons,List.length_take]; omega
theorem blkI_len {l : List (List UInt8)} (hi : Ids l) (j : Nat) : (blkI l j).length ≤ 258:=by
  have hp : Ids ((l.drop (j * 8)).take 8):=fun q hq => hi q (List.mem_of_mem_drop (List.mem_of_mem_take hq))
  have hl : ((l.drop (j * 8)).take 8).length ≤ 8:=by rw [List.length_take]; omega
  unfold blkI innerR
  split
  · rw [innerTo_length hp (Nat.le_refl _)]
    omega
  · simp
theorem inodeR_len (k s l : Int) (top : List UInt8) (h : top.length = 32) : (inodeR k s l top).length ≤ 39:=by
  unfold inodeR
  split
  · unfold inodeB
    simp [numB_length,h]
  · simp
theorem levels_le {bl : List (List UInt8)} {dd : List UInt8} {lv f : Nat} {l : List (List UInt8)} (h : Up dd bl lv f l) : lv ≤ (aboveD dd).2.1:=by have:=h.levels; omega
theorem above_levels : ∀ (f : Nat) (l : List (List UInt8)),(above f l).2.1 ≤ f
  | 0,_ => Nat.le_refl _
  | f + 1,l => by
    rw [above]
    split
    · have:=above_levels f ((rowsI l).map sha)
      show (above f ((rowsI l).map sha)).2.1 + 1 ≤ f + 1
      omega
    · exact Nat.zero_le _
theorem getD_dflt {α : Type} {l : List α} {k : Nat} {a b : α} (h : k < l.length) : l.getD k a = l.getD k b:=by simp [h]
theorem marks_one {D : Nat} {h : Hlt} (hp : objP D (.deferred (some [])) h) : marksP [D] h:=⟨by simp,fun x hx => by simp at hx; subst hx; exact hp⟩
theorem acc_more {F0 : HP} {g g3 gl : Nat} {hist bl : List (List UInt8)} {b : List UInt8} {v : Value} (hv : v.oneCell' = true) {h : Hlt} (hs : starL [F0,bldP g (hist ++ bl ++ [b]),blk g3 85 [.pointer (some ⟨g,0,none⟩)],blk gl 165 [v],rowI 29 v (bl.map sha ++ [sha b])] h) : accP F0 g g3 gl hist (bl ++ [b]) h:=by
  refine ⟨v,hv,?_⟩
  rw [← List.append_assoc,List.map_append]
  exact hs
theorem file_spec (g : Nat) (hist : List (List UInt8)) (kind : Int) (v : Value) (d : List UInt8) (hd : d.length ≤ 100000) (F : HP) (hF : ∀ h,F h → rdB v d h) : CallsS Tryz.prog 64 #[.pointer (some ⟨g,0,none⟩),.int .i64 kind,v] F [bldP g hist] (fun r Ps => r = idV (idF kind d) ∧ Ps = [bldP g (hist ++ blocksF kind d)]):=by
  refine callsS_marks Tryz.func64 rfl Tryz.ntmps64 (by simp) (fun E => ?_)
  refine Q9 ?_
  refine J9 [(0,_),(1,_),(2,_)] [(0,_),(1,_)] ?_ ⟨rfl,rfl,rfl,trivial⟩ ⟨rfl,rfl,trivial⟩
  refine W_fact (r:=0) rfl (fun h hp => rd_sh (hF h hp)) (fun hsh => ?_)
  obtain ⟨A,c,rfl,hnc⟩:=hsh
  refine R9 (Lc9 rfl rfl (by decide) (OpT_box (r:=101) rfl rfl rfl (fun g101 => (Lc9 rfl rfl (by decide) (OpT_alloc (r:=102) (cs:=(bs zeroId)) rfl (zero_run (by kernel_rfl : (Tryz.prog.info? 29).bind (·.zero) = some (.agg (bs zeroId).toArray))) rfl (fun g102 => (N9 (X9 ?_))))))))
  refine Q9 ?_
  refine J9 [(0,_),(1,_),(2,_),(3,_),(6,_)] [(0,_),(1,_),(101,_),(102,_)] ?_ ⟨rfl,rfl,rfl,rfl,rfl,trivial⟩ ⟨rfl,rfl,rfl,rfl,trivial⟩
  refine R9 (M9 rfl rfl (M9 rfl rfl (L9 rfl (Pl9 (r:=0) rfl Tryz.runUnderlying36 rfl rfl hF) (L9 rfl (Pu_build (V:=nodeV kind (d.length : Int) 0 zeroId) [(0,1),(1,1),(2,1),(3,32)] (nodeC 0 0 0 zeroId) rfl rfl (by kernel_rfl) (by kernel_rfl) (.one rfl rfl (by simp [nodeC,bs_length,zeroId_length]) rfl (.one rfl rfl (by simp [nodeC,bs_length,zeroId_length]) rfl (.nil _))) rfl) (Lc9 rfl rfl (by decide) (OpT_alloc (r:=103) (cs:=(nodeC 0 0 0 zeroId)) rfl (zero_run (by kernel_rfl : (Tryz.prog.info? 42).bind (·.zero) = some (.agg (nodeC 0 0 0 zeroId).toArray))) rfl (fun g103 => (Lc09 rfl rfl (OpT_storeAll (r:=103) rfl Tryz.sizeOf42 rfl rfl rfl rfl rfl (one_node _ _ _ _) ?_)))))))))
  refine (N9 (X9 ?_))
  refine Q9 ?_
  refine J9 [(0,_),(1,_),(2,_),(3,_),(6,_),(7,_)] [(0,_),(1,_),(101,_),(102,_),(103,_)] ?_ ⟨rfl,rfl,rfl,rfl,rfl,rfl,trivial⟩ ⟨rfl,rfl,rfl,rfl,rfl,trivial⟩
  refine R9 (Lc9 rfl rfl (by decide) (OpT_alloc (r:=104) rfl Tryz.zeroValue165 rfl (fun g104 => (N9 (X9 ?_)))))
  refine Q9 ?_
  refine Q9 ?_
  refine J9 [(0,_),(1,_),(2,_),(3,_),(6,_),(7,_),(8,_)] [(0,_),(1,_),(101,_),(102,_),(103,_),(104,_)] ?_ ⟨rfl,rfl,rfl,rfl,rfl,rfl,rfl,trivial⟩ ⟨rfl,rfl,rfl,rfl,rfl,rfl,trivial⟩
  refine R9 (M9 rfl rfl (Lc9 rfl rfl (by decide) (Oc9 200 [0,1,101,102,103,104] [] rfl Tryz.call91 rfl rfl rfl (by decide) (by decide) (chunkB_spec _ rfl _) (fun v22 Ps22 hR22 => ?_))))
  obtain ⟨b1,b2,rfl,rfl⟩:=hR22
  skip
  refine (N9 (X9 ?_))
  refine W_block ?_
  refine Wt9 (P':=bldP g (hist ++ [])) 1 rfl (fun h hp => by rw [List.append_nil]; exact hp) ?_
  refine W_nilRow 499 29 32 ?_
  refine W_join [0,1,101,104,499] 500 (accP F g g101 g104 hist []) rfl (by decide) (fun h hs => ⟨.slice none 0 0,rfl,hs⟩) ?_
  refine W_of_WD ?_
  refine WD_rangeFunc (α:={j : Nat // j * 64 < d.length}) (Y:=Nat) (enc:=fun j => chV 1 64 (d.length) j.1 A) (G:=fun pre => accP (F) g g101 g104 (hist) (pre.map fun j => blkD d j.1)) (N:=d.length + 1) (S:=(fun xs => xs.map (·.1) = List.range xs.length ∧ d.length ≤ xs.length * 64 ∧ ((xs.length - 1) * 64 < d.length ∨ xs.length = 0))) (Cs':=[blk b1 36 [.slice A (d.length) c],blk b2 3 [.int .i64 64]]) rfl (by decide) Tryz.call127 [102,103] 500 [200,201] 600 rfl rfl rfl (by decide) (by decide) (fun F => chunkB_seq b1 b2 d.length c A hnc (by omega) F) (fun x y0 => [(3,.pointer (some ⟨g101,0,none⟩)),(8,.pointer (some ⟨g104,0,none⟩)),(9,chV 1 64 (d.length) x.1 A)]) (fun F1 LP pre x y0 => [(0,F1),(1,accP (F) g g101 g104 (hist) (pre.map fun j => blkD d j.1)),(2,LP)]) (fun _ _ _ _ _ => rfl) ?_ ?_ ?_
  ·
    intro E1 F1 l1 LP pre x hlen
    refine WI_regL ?_
    refine WLI_pure (by rfl) rfl rfl (by decide) (Pg9 rfl rfl) ?_
    refine WLI_nil (fun a w hA hS => ⟨0,hA.sub (AllIn.look ⟨rfl,rfl,rfl,trivial⟩),hS.sub (AllIn.look ⟨rfl,rfl,rfl,trivial⟩)⟩)
  ·
    intro E1 F1 l1 LP LP1 pre x y0 hlen
    refine WI_open 1 300 rfl (fun h hp => hp) (fun lv hlv => ?_)
    have hpl : ((d.drop (x.1 * 64)).take 64).length ≤ 64:=by rw [List.length_take]; omega
    have hbl : ((pre.map fun j => blkD d j.1)).length = pre.length:=List.length_map _
    refine WI_block ?_
    refine WI_seq ?_
    refine WI.pre (K':=[(3,_),(8,_),(9,_)]) (L':=[(0,_),(2,_),(300,_),(301,_),(302,_),(303,_),(304,_)]) ?_ ⟨rfl,rfl,rfl,trivial⟩ ⟨rfl,rfl,rfl,rfl,rfl,rfl,rfl,trivial⟩
    refine WI_regL (WLI_pure (by rfl) rfl rfl (by decide) (Pm9 rfl rfl) (WLI_pure (by rfl) rfl rfl (by decide) (Pl9 (r:=300) rfl Tryz.runUnderlying36 rfl rfl (fun h hp => chB_rd (hF h hp) x.2)) (WLI_pure (by rfl) rfl rfl (by decide) (Pn9 rfl rfl rfl (run_add _ _ _ _ _ (by omega))) ?_)))
    rw [show (1 : Int) + (((d.drop (x.1 * 64)).take 64).length : Int) = ((1 + ((d.drop (x.1 * 64)).take 64).length : Nat) : Int) by omega]
    refine (WLI_cons (by intro c h; cases h) rfl rfl (by decide) (OpT_makeLen (r:=305) 1 (1 + ((d.drop (x.1 * 64)).take 64).length) rfl Tryz.underlying36 TI.hi5 TI.hz5 TI.hs5 rfl rfl rfl (by omega) (by rw [TI.hby5]; omega) (by unfold maxLen; omega) (fun v27 => ?_)))
    refine WLI_turn (P':=rowB 5 v27 [0]) (r:=305) rfl (fun h hp => hp) ?_
    refine (WLI_pure (by rfl) rfl rfl (by decide) (Pg9 rfl rfl) (WLI_nil (XI_then ?_)))
    refine WI_seq ?_
    refine WI.pre (K':=[(3,_),(8,_),(9,_),(10,_)]) (L':=[(0,_),(2,_),(300,_),(301,_),(302,_),(303,_),(304,_),(305,_)]) ?_ ⟨rfl,rfl,rfl,rfl,trivial⟩ ⟨rfl,rfl,rfl,rfl,rfl,rfl,rfl,rfl,trivial⟩
    refine WI_regL (WLI_pure (by rfl) rfl rfl (by decide) (Pm9 rfl rfl) (WLI_pure (by rfl) rfl rfl (by decide) (Pu_idxS1 (r:=305) rfl Tryz.runUnderlying36 Tryz.sizeOf5 rfl rfl rfl rowB_rd (by simp)) (WLI_cons0 (by intro c h; cases h) rfl rfl (OpT_storeS1 (r:=305) rfl Tryz.sizeOf5 rfl rfl rfl rfl (by decide) (show _ = bs [100] from rfl) ?_))))
    refine WLI_turn (P':=rowB 5 v27 [100]) (r:=305) rfl (fun h hp => hp) ?_
    refine (WLI_nil (XI_then ?_))
    refine WI.pre (K':=[(3,_),(8,_),(9,_),(10,_)]) (L':=[(0,_),(2,_),(300,_),(301,_),(302,_),(303,_),(304,_),(305,_)]) ?_ ⟨rfl,rfl,rfl,rfl,trivial⟩ ⟨rfl,rfl,rfl,rfl,rfl,rfl,rfl,rfl,trivial⟩
    refine WI_draw (N:=9) (by kernel_rfl) (by kernel_rfl) rfl [(300,_),(302,_)] ⟨rfl,rfl,trivial⟩ ?_
    refine (T9 1 rfl rfl (Pb9 (r:=302) rfl Tryz.isAgg85 rfl rfl rfl) (T9 2 rfl rfl (Pm9 rfl rfl) (T9 3 rfl rfl (Pm9 rfl rfl) (Y9 [0,4] ?_))))
    refine Z9 rfl rfl (Or9 (Pb9 (r:=303) rfl Tryz.isAgg165 rfl rfl rfl) ⟨⟨rfl,rfl,trivial⟩,?_⟩) ?_
    ·
      refine (Y9 [4] ?_)
      refine Z9 rfl rfl (Oa9 (r:=305) (r2:=300) rfl Tryz.underlying36 TI.hi5 TI.hz5 TI.hs5 TI.hby5 TI.hzs5 (by decide) rfl rfl rfl rfl (fun h hp => chB_rd (hF h hp) x.2) (bs_one _) (by unfold maxLen; show 1 + _ ≤ _; omega) (by show (1 + _) * 1 ≤ _; omega) (fun v34 => ?_)) ?_
      ·
        refine ⟨⟨rfl,rfl,trivial⟩,?_⟩
        refine AH_turn (P':=rowB 5 v34 (blkD d x.1)) 305 rfl (fun h hp => rowB_mk hp (by unfold blkD; rw [List.length_cons,Nat.add_comm]; rfl) (by unfold blkD; rfl)) ?_
        refine (Y9 [5] ?_)
        refine Z9 rfl rfl (Oc9 400 [0,2,300,302,303,304] [301,305] rfl Tryz.call92 rfl rfl rfl (by decide) (by decide) (lay_spec g _ _ (blkD d x.1) (by have:=blkD_len d x.1; omega) _) (fun v35 Ps35 hR35 => ?_)) ?_
        ·
          obtain ⟨rfl,rfl⟩:=hR35
          refine ⟨⟨rfl,rfl,trivial⟩,?_⟩
          skip
          refine (Y9 [6] ?_)
          refine Z9 rfl rfl (OpT_buildRows (r:=401) [bs (sha (blkD d x.1))] rfl rfl Tryz.runUnderlying165 Tryz.sizeOf29 Tryz.zeroValue29 rfl (by decide) rfl (by decide) (by intro r hr; simp at hr; rw [hr]; exact (bs_length _).trans (sha_length _)) rfl (fun v36 => ⟨⟨rfl,rfl,trivial⟩,?_⟩)) ?_
          ·
            refine (Y9 [7] ?_)
            refine Z9 rfl rfl (Oa9 (r:=304) (r2:=401) rfl Tryz.underlying165 TI.hi29 TI.hz29 TI.hs29 TI.hby29 TI.hzs29 (by decide) rfl rfl rfl rfl (fun _ h => rp9 h) (by intro u hu; simp at hu; exact bs_one _ u hu) (by unfold maxLen; rw [List.length_map,List.length_map]; omega) (by rw [List.length_map,List.length_map]; omega) (fun v37 => ?_)) ?_
            ·
              refine ⟨⟨rfl,rfl,trivial⟩,?_⟩
              refine AH_turn (P':=rowI 29 v37 ((pre.map fun j => blkD d j.1).map sha ++ [sha (blkD d x.1)])) 304 rfl (fun h hp => rowI_mk hp (by rw [List.length_append]; rfl) (by rw [idsC_append,idsC_one]; simp)) ?_
              refine AH_fact (r:=304) rfl (fun h hp => rd_one (rp9 hp)) (fun ho37 => ?_)
              refine (Y9 [8] ?_)
              refine Ac09 rfl rfl rfl (OpT_storeB1 (r:=303) rfl Tryz.sizeOf165 rfl rfl rfl ho37 (by simp) rfl ?_) ?_
              ·
                refine ⟨⟨rfl,rfl,trivial⟩,?_⟩
                refine (Ad9 (by kernel_rfl) (X_onlyN (X_block ?_)))
                refine X_join [300,400,302,303,304] 400 (accP F g g101 g104 hist ((pre ++ [x]).map fun j => blkD d j.1)) rfl (by decide) (fun h hs => by rw [List.map_append]; exact acc_more ho37 hs) ?_
                exact fun a w hA hS => ⟨rfl,hS.pick (ids:=[0,400,2]) ⟨rfl,rfl,rfl,trivial⟩ (by decide)⟩
              exact An9
            exact An9
          exact An9
        exact An9
      exact An9
    refine Z9 rfl rfl (Oa9 (r:=305) (r2:=300) rfl Tryz.underlying36 TI.hi5 TI.hz5 TI.hs5 TI.hby5 TI.hzs5 (by decide) rfl rfl rfl rfl (fun h hp => chB_rd (hF h hp) x.2) (bs_one _) (by unfold maxLen; show 1 + _ ≤ _; omega) (by show (1 + _) * 1 ≤ _; omega) (fun v34 => ?_)) ?_
    ·
      refine ⟨⟨rfl,rfl,trivial⟩,?_⟩
      refine AH_turn (P':=rowB 5 v34 (blkD d x.1)) 305 rfl (fun h hp => rowB_mk hp (by unfold blkD; rw [List.length_cons,Nat.add_comm]; rfl) (by unfold blkD; rfl)) ?_
      refine (Y9 [0,5] ?_)
      refine Z9 rfl rfl (Or9 (Pb9 (r:=303) rfl Tryz.isAgg165 rfl rfl rfl) ⟨⟨rfl,rfl,trivial⟩,?_⟩) ?_
      ·
        refine (Y9 [5] ?_)
        refine Z9 rfl rfl (Oc9 400 [0,2,300,302,303,304] [301,305] rfl Tryz.call92 rfl rfl rfl (by decide) (by decide) (lay_spec g _ _ (blkD d x.1) (by have:=blkD_len d x.1; omega) _) (fun v35 Ps35 hR35 => ?_)) ?_
        ·
          obtain ⟨rfl,rfl⟩:=hR35
          refine ⟨⟨rfl,rfl,trivial⟩,?_⟩
          skip
          refine (Y9 [6] ?_)
          refine Z9 rfl rfl (OpT_buildRows (r:=401) [bs (sha (blkD d x.1))] rfl rfl Tryz.runUnderlying165 Tryz.sizeOf29 Tryz.zeroValue29 rfl (by decide) rfl (by decide) (by intro r hr; simp at hr; rw [hr]; exact (bs_length _).trans (sha_length _)) rfl (fun v36 => ⟨⟨rfl,rfl,trivial⟩,?_⟩)) ?_
          ·
            refine (Y9 [7] ?_)
            refine Z9 rfl rfl (Oa9 (r:=304) (r2:=401) rfl Tryz.underlying165 TI.hi29 TI.hz29 TI.hs29 TI.hby29 TI.hzs29 (by decide) rfl rfl rfl rfl (fun _ h => rp9 h) (by intro u hu; simp at hu; exact bs_one _ u hu) (by unfold maxLen; rw [List.length_map,List.length_map]; omega) (by rw [List.length_map,List.length_map]; omega) (fun v37 => ?_)) ?_
            ·
              refine ⟨⟨rfl,rfl,trivial⟩,?_⟩
              refine AH_turn (P':=rowI 29 v37 ((pre.map fun j => blkD d j.1).map sha ++ [sha (blkD d x.1)])) 304 rfl (fun h hp => rowI_mk hp (by rw [List.length_append]; rfl) (by rw [idsC_append,idsC_one]; simp)) ?_
              refine AH_fact (r:=304) rfl (fun h hp => rd_one (rp9 hp)) (fun ho37 => ?_)
              refine (Y9 [8] ?_)
              refine Ac09 rfl rfl rfl (OpT_storeB1 (r:=303) rfl Tryz.sizeOf165 rfl rfl rfl ho37 (by simp) rfl ?_) ?_
              ·
                refine ⟨⟨rfl,rfl,trivial⟩,?_⟩
                refine (Ad9 (by kernel_rfl) (X_onlyN (X_block ?_)))
                refine X_join [300,400,302,303,304] 400 (accP F g g101 g104 hist ((pre ++ [x]).map fun j => blkD d j.1)) rfl (by decide) (fun h hs => by rw [List.map_append]; exact acc_more ho37 hs) ?_
                exact fun a w hA hS => ⟨rfl,hS.pick (ids:=[0,400,2]) ⟨rfl,rfl,rfl,trivial⟩ (by decide)⟩
              exact An9
            exact An9
          exact An9
        exact An9
      refine Z9 rfl rfl (Oc9 400 [0,2,300,302,303,304] [301,305] rfl Tryz.call92 rfl rfl rfl (by decide) (by decide) (lay_spec g _ _ (blkD d x.1) (by have:=blkD_len d x.1; omega) _) (fun v35 Ps35 hR35 => ?_)) ?_
      ·
        obtain ⟨rfl,rfl⟩:=hR35
        refine ⟨⟨rfl,rfl,trivial⟩,?_⟩
        skip
        refine (Y9 [0,6] ?_)
        refine Z9 rfl rfl (Or9 (Pb9 (r:=303) rfl Tryz.isAgg165 rfl rfl rfl) ⟨⟨rfl,rfl,trivial⟩,?_⟩) ?_
        ·
          refine (Y9 [6] ?_)
          refine Z9 rfl rfl (OpT_buildRows (r:=401) [bs (sha (blkD d x.1))] rfl rfl Tryz.runUnderlying165 Tryz.sizeOf29 Tryz.zeroValue29 rfl (by decide) rfl (by decide) (by intro r hr; simp at hr; rw [hr]; exact (bs_length _).trans (sha_length _)) rfl (fun v36 => ⟨⟨rfl,rfl,trivial⟩,?_⟩)) ?_
          ·
            refine (Y9 [7] ?_)
            refine Z9 rfl rfl (Oa9 (r:=304) (r2:=401) rfl Tryz.underlying165 TI.hi29 TI.hz29 TI.hs29 TI.hby29 TI.hzs29 (by decide) rfl rfl rfl rfl (fun _ h => rp9 h) (by intro u hu; simp at hu; exact bs_one _ u hu) (by unfold maxLen; rw [List.length_map,List.length_map]; omega) (by rw [List.length_map,List.length_map]; omega) (fun v37 => ?_)) ?_
            ·
              refine ⟨⟨rfl,rfl,trivial⟩,?_⟩
              refine AH_turn (P':=rowI 29 v37 ((pre.map fun j => blkD d j.1).map sha ++ [sha (blkD d x.1)])) 304 rfl (fun h hp => rowI_mk hp (by rw [List.length_append]; rfl) (by rw [idsC_append,idsC_one]; simp)) ?_
              refine AH_fact (r:=304) rfl (fun h hp => rd_one (rp9 hp)) (fun ho37 => ?_)
              refine (Y9 [8] ?_)
              refine Ac09 rfl rfl rfl (OpT_storeB1 (r:=303) rfl Tryz.sizeOf165 rfl rfl rfl ho37 (by simp) rfl ?_) ?_
              ·
                refine ⟨⟨rfl,rfl,trivial⟩,?_⟩
                refine (Ad9 (by kernel_rfl) (X_onlyN (X_block ?_)))
                refine X_join [300,400,302,303,304] 400 (accP F g g101 g104 hist ((pre ++ [x]).map fun j => blkD d j.1)) rfl (by decide) (fun h hs => by rw [List.map_append]; exact acc_more ho37 hs) ?_
                exact fun a w hA hS => ⟨rfl,hS.pick (ids:=[0,400,2]) ⟨rfl,rfl,rfl,trivial⟩ (by decide)⟩
              exact An9
            exact An9
          exact An9
        refine Z9 rfl rfl (OpT_buildRows (r:=401) [bs (sha (blkD d x.1))] rfl rfl Tryz.runUnderlying165 Tryz.sizeOf29 Tryz.zeroValue29 rfl (by decide) rfl (by decide) (by intro r hr; simp at hr; rw [hr]; exact (bs_length _).trans (sha_length _)) rfl (fun v36 => ⟨⟨rfl,rfl,trivial⟩,?_⟩)) ?_
        ·
          refine (Y9 [0] ?_)
          refine Z9 rfl rfl (Or9 (Pb9 (r:=303) rfl Tryz.isAgg165 rfl rfl rfl) ⟨⟨rfl,rfl,trivial⟩,?_⟩) ?_
          ·
            refine (Y9 [7] ?_)
            refine Z9 rfl rfl (Oa9 (r:=304) (r2:=401) rfl Tryz.underlying165 TI.hi29 TI.hz29 TI.hs29 TI.hby29 TI.hzs29 (by decide) rfl rfl rfl rfl (fun _ h => rp9 h) (by intro u hu; simp at hu; exact bs_one _ u hu) (by unfold maxLen; rw [List.length_map,List.length_map]; omega) (by rw [List.length_map,List.length_map]; omega) (fun v37 => ?_)) ?_
            ·
              refine ⟨⟨rfl,rfl,trivial⟩,?_⟩
              refine AH_turn (P':=rowI 29 v37 ((pre.map fun j => blkD d j.1).map sha ++ [sha (blkD d x.1)])) 304 rfl (fun h hp => rowI_mk hp (by rw [List.length_append]; rfl) (by rw [idsC_append,idsC_one]; simp)) ?_
              refine AH_fact (r:=304) rfl (fun h hp => rd_one (rp9 hp)) (fun ho37 => ?_)
              refine (Y9 [8] ?_)
              refine Ac09 rfl rfl rfl (OpT_storeB1 (r:=303) rfl Tryz.sizeOf165 rfl rfl rfl ho37 (by simp) rfl ?_) ?_
              ·
                refine ⟨⟨rfl,rfl,trivial⟩,?_⟩
                refine (Ad9 (by kernel_rfl) (X_onlyN (X_block ?_)))
                refine X_join [300,400,302,303,304] 400 (accP F g g101 g104 hist ((pre ++ [x]).map fun j => blkD d j.1)) rfl (by decide) (fun h hs => by rw [List.map_append]; exact acc_more ho37 hs) ?_
                exact fun a w hA hS => ⟨rfl,hS.pick (ids:=[0,400,2]) ⟨rfl,rfl,rfl,trivial⟩ (by decide)⟩
              exact An9
            exact An9
          exact An9
        exact An9
      exact An9
    exact An9
  ·
    intro D0 xs Lp Lp1 hxs
    obtain ⟨hx1,hx2,hx3⟩:=hxs
    refine XD_turn (P':=accP F g g101 g104 hist (rowsD d)) 630 rfl (fun h hp => by rw [show rowsD d = xs.map fun j => blkD d j.1 from (pieces_all (by decide) hx1 hx2 hx3 rfl).symm]; exact hp) ?_
    refine XD_turn (P':=marksP [D0]) 600 rfl (fun h hp => marks_one hp) ?_
    refine XD_ren 600 900 rfl ?_
    refine XD_open 630 700 rfl (fun h hp => hp) (fun lv0 hlv0 => ?_)
    refine XD_ren 700 0 rfl ?_
    refine (XD_block (XD_then ?_))
    refine WD_seq ?_
    refine WD_block ?_
    refine WD_loop (α:=Value × List Nat × List (List UInt8) × Nat × Nat × List (List UInt8)) (fun y => marks y.2.1) (fun y => [(3,.pointer (some ⟨g101,0,none⟩)),(6,.pointer (some ⟨g102,0,none⟩)),(7,.pointer (some ⟨g103,0,none⟩)),(8,.pointer (some ⟨g104,0,none⟩))]) (fun y => [(0,F),(701,bldP g (hist ++ y.2.2.1)),(702,blk g101 85 [.pointer (some ⟨g,0,none⟩)]),(703,blk g104 165 [y.1]),(704,rowI 29 y.1 y.2.2.2.2.2),(102,blk g102 29 (bs zeroId)),(103,blk g103 42 (nodeC kind (d.length : Int) (y.2.2.2.1 : Int) zeroId)),(900,marksP y.2.1)]) (fun y => y.1.oneCell' = true ∧ Up d y.2.2.1 y.2.2.2.1 y.2.2.2.2.1 y.2.2.2.2.2 ∧ y.2.2.2.2.1 ≤ d.length + 1) (fun y => y.2.2.2.2.1) (lv0,[D0],rowsD d,0,d.length + 1,(rowsD d).map sha) ⟨hlv0,Up.start d,Nat.le_refl _⟩ rfl ⟨rfl,rfl,rfl,rfl,trivial⟩ ⟨rfl,rfl,rfl,rfl,rfl,rfl,rfl,rfl,trivial⟩ (fun y hy => ?_)
    obtain ⟨hyo,hu,hyf⟩:=hy
    have hids:=hu.ids
    have hfl:=hu.fuel
    refine WD_seq ?_
    refine WD_seq ?_
    refine WD.pre (K':=[(3,_),(6,_),(7,_),(8,_)]) (L':=[(0,_),(102,_),(103,_),(701,_),(702,_),(703,_),(704,_),(900,_)]) ?_ ⟨rfl,rfl,rfl,rfl,trivial⟩ ⟨rfl,rfl,rfl,rfl,rfl,rfl,rfl,rfl,trivial⟩
    refine Dr9 (Dp9 rfl rfl (by decide) (Pb9 (r:=703) rfl Tryz.isAgg165 rfl rfl rfl) (Dp9 rfl rfl (by decide) (Pl9 (r:=704) rfl Tryz.runUnderlying165 rfl rfl (fun _ h => rp9 h)) (Dp9 rfl rfl (by decide) (Pn9 rfl rfl rfl (run_gtr _ _ _ _ _ _)) (WLD_nil (XD_then ?_)))))
    refine WD_cond rfl (fun hc40 => ?_) (fun hc40 => ?_)
    ·
      have hgt : 1 < y.2.2.2.2.2.length:=by have:=of_decide_eq_true hc40; omega
      obtain ⟨f1,hf1⟩ : ∃ f1,y.2.2.2.2.1 = f1 + 1:=⟨y.2.2.2.2.1 - 1,by omega⟩
      refine WD_skip (XD_then ?_)
      refine WD_block ?_
      refine WD_seq ?_
      refine WD.pre (K':=[(3,_),(6,_),(7,_),(8,_),(40,_)]) (L':=[(0,_),(102,_),(103,_),(701,_),(702,_),(703,_),(704,_),(900,_)]) ?_ ⟨rfl,rfl,rfl,rfl,rfl,trivial⟩ ⟨rfl,rfl,rfl,rfl,rfl,rfl,rfl,rfl,trivial⟩
      refine Dr9 (Dc9 rfl rfl (by decide) (OpT_alloc (r:=951) rfl Tryz.zeroValue165 rfl (fun g951 => (WLD_nil (XD_then ?_)))))
      refine WD_seq ?_
      refine WD_seq ?_
      refine WD.pre (K':=[(3,_),(6,_),(7,_),(8,_),(11,_),(40,_)]) (L':=[(0,_),(102,_),(103,_),(701,_),(702,_),(703,_),(704,_),(900,_),(951,_)]) ?_ ⟨rfl,rfl,rfl,rfl,rfl,rfl,trivial⟩ ⟨rfl,rfl,rfl,rfl,rfl,rfl,rfl,rfl,rfl,trivial⟩
      refine Dr9 (Dp9 rfl rfl (by decide) (Pb9 (r:=703) rfl Tryz.isAgg165 rfl rfl rfl) (Dc9 rfl rfl (by decide) (Oc9 1000 [0,102,103,701,702,703,704,900,951] [] rfl Tryz.call93 rfl rfl rfl (by decide) (by decide) (chunkI_spec _ (cells_one hyo) _) (fun v42 Ps42 hR42 => ?_))))
      obtain ⟨b1i,b2i,rfl,rfl⟩:=hR42
      skip
      refine (WLD_nil (XD_then ?_))
      refine WD_block ?_
      refine WD_fact (r:=704) rfl (fun h hp => rdI_sh (rp9 hp)) (fun hsh => ?_)
      obtain ⟨A2,c2,hlE,hnc2⟩:=hsh
      refine WD_turn (P':=blk b1i 165 [.slice A2 y.2.2.2.2.2.length c2]) 1000 rfl (fun h hp => by rw [← hlE]; exact hp) ?_
      refine WD_join [0,704] 705 (starL [F,rowI 29 y.1 y.2.2.2.2.2]) rfl (by decide) (fun h hs => hs) ?_
      refine WD_turn (P':=bldP g (hist ++ y.2.2.1 ++ [])) 701 rfl (fun h hp => by rw [List.append_nil]; exact hp) ?_
      refine WD_nilRow 499 29 32 ?_
      refine WD_join [705,701,702,951,499] 500 (accP (starL [F,rowI 29 y.1 y.2.2.2.2.2]) g g101 g951 (hist ++ y.2.2.1) []) rfl (by decide) (fun h hs => ⟨.slice none 0 0,rfl,hs⟩) ?_
      refine WD_rangeFunc (α:={j : Nat // j * 8 < y.2.2.2.2.2.length}) (Y:=Nat) (enc:=fun j => chV 32 8 (y.2.2.2.2.2.length) j.1 A2) (G:=fun pre => accP (starL [F,rowI 29 y.1 y.2.2.2.2.2]) g g101 g951 (hist ++ y.2.2.1) (pre.map fun j => blkI y.2.2.2.2.2 j.1)) (N:=y.2.2.2.2.2.length + 1) (S:=(fun xs => xs.map (·.1) = List.range xs.length ∧ y.2.2.2.2.2.length ≤ xs.length * 8 ∧ ((xs.length - 1) * 8 < y.2.2.2.2.2.length ∨ xs.length = 0))) (Cs':=[blk b1i 165 [.slice A2 (y.2.2.2.2.2.length) c2],blk b2i 3 [.int .i64 8]]) rfl (by decide) Tryz.call128 [703,102,103,900] 500 [1000,1001] 1600 rfl rfl rfl (by decide) (by decide) (fun F => chunkI_seq b1i b2i y.2.2.2.2.2.length c2 A2 hnc2 (by omega) F) (fun x y0 => [(3,.pointer (some ⟨g101,0,none⟩)),(11,.pointer (some ⟨g951,0,none⟩)),(12,chV 32 8 (y.2.2.2.2.2.length) x.1 A2)]) (fun F1 LP pre x y0 => [(0,F1),(1,accP (starL [F,rowI 29 y.1 y.2.2.2.2.2]) g g101 g951 (hist ++ y.2.2.1) (pre.map fun j => blkI y.2.2.2.2.2 j.1)),(2,LP)]) (fun _ _ _ _ _ => rfl) ?_ ?_ ?_
      ·
        intro E1 F1 l1 LP pre x hlen
        refine WI_regL ?_
        refine WLI_pure (by rfl) rfl rfl (by decide) (Pg9 rfl rfl) ?_
        refine WLI_nil (fun a w hA hS => ⟨0,hA.sub (AllIn.look ⟨rfl,rfl,rfl,trivial⟩),hS.sub (AllIn.look ⟨rfl,rfl,rfl,trivial⟩)⟩)
      ·
        intro E1 F1 l1 LP LP1 pre x y0 hlen
        refine WI_open 1 300 rfl (fun h hp => hp) (fun lv hlv => ?_)
        have hbl : ((pre.map fun j => blkI y.2.2.2.2.2 j.1)).length = pre.length:=List.length_map _
        have hpi : Ids ((y.2.2.2.2.2.drop (x.1 * 8)).take 8):=fun q hq => hids q (List.mem_of_mem_drop (List.mem_of_mem_take hq))
        refine WI_block ?_
        refine WI_seq ?_
        refine WI.pre (K':=[(3,_),(11,_),(12,_)]) (L':=[(0,_),(2,_),(300,_),(301,_),(302,_),(303,_),(304,_)]) ?_ ⟨rfl,rfl,rfl,trivial⟩ ⟨rfl,rfl,rfl,rfl,rfl,rfl,rfl,trivial⟩
        refine WI_regL (WLI_pure (by rfl) rfl rfl (by decide) (Pm9 rfl rfl) (WLI_cons (by intro c h; cases h) rfl rfl (by decide) (Oc9 400 [0,2,300,301,302,303,304] [] rfl Tryz.call94 rfl rfl rfl (by decide) (by decide) (inner_spec _ ((y.2.2.2.2.2.drop (x.1 * 8)).take 8) hpi _ (rs9 2 rfl (fun h hp => chI_rd hids (rs9 1 rfl (fun h2 hp2 => hlE ▸ rp9 hp2) h hp) x.2))) (fun v46 Ps46 hR46 => ?_))))
        obtain ⟨w46,rfl,rfl⟩:=hR46
        refine (WLI_pure (by rfl) rfl rfl (by decide) (Pm9 rfl rfl) (WLI_pure (by rfl) rfl rfl (by decide) (Pe9 rfl rfl rfl) (WLI_pure (by rfl) rfl rfl (by decide) (Pe9 rfl rfl rfl) (WLI_pure (by rfl) rfl rfl (by decide) (Pg9 rfl rfl) (WLI_pure (by rfl) rfl rfl (by decide) (Pg9 rfl rfl) (WLI_nil (XI_then ?_)))))))
        refine WI.pre (K':=[(3,_),(11,_),(12,_),(13,_)]) (L':=[(0,_),(2,_),(300,_),(301,_),(302,_),(303,_),(304,_),(400,_)]) ?_ ⟨rfl,rfl,rfl,rfl,trivial⟩ ⟨rfl,rfl,rfl,rfl,rfl,rfl,rfl,rfl,trivial⟩
        refine WI_draw (N:=7) (by kernel_rfl) (by kernel_rfl) rfl [(300,_),(302,_)] ⟨rfl,rfl,trivial⟩ ?_
        refine (T9 1 rfl rfl (Pb9 (r:=302) rfl Tryz.isAgg85 rfl rfl rfl) (T9 2 rfl rfl (Pm9 rfl rfl) (Y9 [0,3] ?_)))
        refine Z9 rfl rfl (Or9 (Pb9 (r:=303) rfl Tryz.isAgg165 rfl rfl rfl) ⟨⟨rfl,rfl,trivial⟩,?_⟩) ?_
        ·
          refine (Y9 [3] ?_)
          refine Z9 rfl rfl (Oc9 500 [0,2,300,302,303,304] [301,400] rfl Tryz.call92 rfl rfl rfl (by decide) (by decide) (lay_spec g _ _ (blkI y.2.2.2.2.2 x.1) (by have:=blkI_len hids x.1; omega) _) (fun v52 Ps52 hR52 => ?_)) ?_
          ·
            obtain ⟨rfl,rfl⟩:=hR52
            refine ⟨⟨rfl,rfl,trivial⟩,?_⟩
            skip
            refine (Y9 [4] ?_)
            refine Z9 rfl rfl (OpT_buildRows (r:=501) [bs (sha (blkI y.2.2.2.2.2 x.1))] rfl rfl Tryz.runUnderlying165 Tryz.sizeOf29 Tryz.zeroValue29 rfl (by decide) rfl (by decide) (by intro r hr; simp at hr; rw [hr]; exact (bs_length _).trans (sha_length _)) rfl (fun v53 => ⟨⟨rfl,rfl,trivial⟩,?_⟩)) ?_
            ·
              refine (Y9 [5] ?_)
              refine Z9 rfl rfl (Oa9 (r:=304) (r2:=501) rfl Tryz.underlying165 TI.hi29 TI.hz29 TI.hs29 TI.hby29 TI.hzs29 (by decide) rfl rfl rfl rfl (fun _ h => rp9 h) (by intro u hu; simp at hu; exact bs_one _ u hu) (by unfold maxLen; rw [List.length_map,List.length_map]; omega) (by rw [List.length_map,List.length_map]; omega) (fun v54 => ?_)) ?_
              ·
                refine ⟨⟨rfl,rfl,trivial⟩,?_⟩
                refine AH_turn (P':=rowI 29 v54 ((pre.map fun j => blkI y.2.2.2.2.2 j.1).map sha ++ [sha (blkI y.2.2.2.2.2 x.1)])) 304 rfl (fun h hp => rowI_mk hp (by rw [List.length_append]; rfl) (by rw [idsC_append,idsC_one]; simp)) ?_
                refine AH_fact (r:=304) rfl (fun h hp => rd_one (rp9 hp)) (fun ho54 => ?_)
                refine (Y9 [6] ?_)
                refine Ac09 rfl rfl rfl (OpT_storeB1 (r:=303) rfl Tryz.sizeOf165 rfl rfl rfl ho54 (by simp) rfl ?_) ?_
                ·
                  refine ⟨⟨rfl,rfl,trivial⟩,?_⟩
                  refine (Ad9 (by kernel_rfl) (X_onlyN (X_block ?_)))
                  refine X_join [300,500,302,303,304] 400 (accP (starL [F,rowI 29 y.1 y.2.2.2.2.2]) g g101 g951 (hist ++ y.2.2.1) ((pre ++ [x]).map fun j => blkI y.2.2.2.2.2 j.1)) rfl (by decide) (fun h hs => by rw [List.map_append]; exact acc_more ho54 hs) ?_
                  exact fun a w hA hS => ⟨rfl,hS.pick (ids:=[0,400,2]) ⟨rfl,rfl,rfl,trivial⟩ (by decide)⟩
                exact An9
              exact An9
            exact An9
          exact An9
        refine Z9 rfl rfl (Oc9 500 [0,2,300,302,303,304] [301,400] rfl Tryz.call92 rfl rfl rfl (by decide) (by decide) (lay_spec g _ _ (blkI y.2.2.2.2.2 x.1) (by have:=blkI_len hids x.1; omega) _) (fun v52 Ps52 hR52 => ?_)) ?_
        ·
          obtain ⟨rfl,rfl⟩:=hR52
          refine ⟨⟨rfl,rfl,trivial⟩,?_⟩
          skip
          refine (Y9 [0,4] ?_)
          refine Z9 rfl rfl (Or9 (Pb9 (r:=303) rfl Tryz.isAgg165 rfl rfl rfl) ⟨⟨rfl,rfl,trivial⟩,?_⟩) ?_
          ·
            refine (Y9 [4] ?_)
            refine Z9 rfl rfl (OpT_buildRows (r:=501) [bs (sha (blkI y.2.2.2.2.2 x.1))] rfl rfl Tryz.runUnderlying165 Tryz.sizeOf29 Tryz.zeroValue29 rfl (by decide) rfl (by decide) (by intro r hr; simp at hr; rw [hr]; exact (bs_length _).trans (sha_length _)) rfl (fun v53 => ⟨⟨rfl,rfl,trivial⟩,?_⟩)) ?_
            ·
              refine (Y9 [5] ?_)
              refine Z9 rfl rfl (Oa9 (r:=304) (r2:=501) rfl Tryz.underlying165 TI.hi29 TI.hz29 TI.hs29 TI.hby29 TI.hzs29 (by decide) rfl rfl rfl rfl (fun _ h => rp9 h) (by intro u hu; simp at hu; exact bs_one _ u hu) (by unfold maxLen; rw [List.length_map,List.length_map]; omega) (by rw [List.length_map,List.length_map]; omega) (fun v54 => ?_)) ?_
              ·
                refine ⟨⟨rfl,rfl,trivial⟩,?_⟩
                refine AH_turn (P':=rowI 29 v54 ((pre.map fun j => blkI y.2.2.2.2.2 j.1).map sha ++ [sha (blkI y.2.2.2.2.2 x.1)])) 304 rfl (fun h hp => rowI_mk hp (by rw [List.length_append]; rfl) (by rw [idsC_append,idsC_one]; simp)) ?_
                refine AH_fact (r:=304) rfl (fun h hp => rd_one (rp9 hp)) (fun ho54 => ?_)
                refine (Y9 [6] ?_)
                refine Ac09 rfl rfl rfl (OpT_storeB1 (r:=303) rfl Tryz.sizeOf165 rfl rfl rfl ho54 (by simp) rfl ?_) ?_
                ·
                  refine ⟨⟨rfl,rfl,trivial⟩,?_⟩
                  refine (Ad9 (by kernel_rfl) (X_onlyN (X_block ?_)))
                  refine X_join [300,500,302,303,304] 400 (accP (starL [F,rowI 29 y.1 y.2.2.2.2.2]) g g101 g951 (hist ++ y.2.2.1) ((pre ++ [x]).map fun j => blkI y.2.2.2.2.2 j.1)) rfl (by decide) (fun h hs => by rw [List.map_append]; exact acc_more ho54 hs) ?_
                  exact fun a w hA hS => ⟨rfl,hS.pick (ids:=[0,400,2]) ⟨rfl,rfl,rfl,trivial⟩ (by decide)⟩
                exact An9
              exact An9
            exact An9
          refine Z9 rfl rfl (OpT_buildRows (r:=501) [bs (sha (blkI y.2.2.2.2.2 x.1))] rfl rfl Tryz.runUnderlying165 Tryz.sizeOf29 Tryz.zeroValue29 rfl (by decide) rfl (by decide) (by intro r hr; simp at hr; rw [hr]; exact (bs_length _).trans (sha_length _)) rfl (fun v53 => ⟨⟨rfl,rfl,trivial⟩,?_⟩)) ?_
          ·
            refine (Y9 [0] ?_)
            refine Z9 rfl rfl (Or9 (Pb9 (r:=303) rfl Tryz.isAgg165 rfl rfl rfl) ⟨⟨rfl,rfl,trivial⟩,?_⟩) ?_
            ·
              refine (Y9 [5] ?_)
              refine Z9 rfl rfl (Oa9 (r:=304) (r2:=501) rfl Tryz.underlying165 TI.hi29 TI.hz29 TI.hs29 TI.hby29 TI.hzs29 (by decide) rfl rfl rfl rfl (fun _ h => rp9 h) (by intro u hu; simp at hu; exact bs_one _ u hu) (by unfold maxLen; rw [List.length_map,List.length_map]; omega) (by rw [List.length_map,List.length_map]; omega) (fun v54 => ?_)) ?_
              ·
                refine ⟨⟨rfl,rfl,trivial⟩,?_⟩
                refine AH_turn (P':=rowI 29 v54 ((pre.map fun j => blkI y.2.2.2.2.2 j.1).map sha ++ [sha (blkI y.2.2.2.2.2 x.1)])) 304 rfl (fun h hp => rowI_mk hp (by rw [List.length_append]; rfl) (by rw [idsC_append,idsC_one]; simp)) ?_
                refine AH_fact (r:=304) rfl (fun h hp => rd_one (rp9 hp)) (fun ho54 => ?_)
                refine (Y9 [6] ?_)
                refine Ac09 rfl rfl rfl (OpT_storeB1 (r:=303) rfl Tryz.sizeOf165 rfl rfl rfl ho54 (by simp) rfl ?_) ?_
                ·
                  refine ⟨⟨rfl,rfl,trivial⟩,?_⟩
                  refine (Ad9 (by kernel_rfl) (X_onlyN (X_block ?_)))
                  refine X_join [300,500,302,303,304] 400 (accP (starL [F,rowI 29 y.1 y.2.2.2.2.2]) g g101 g951 (hist ++ y.2.2.1) ((pre ++ [x]).map fun j => blkI y.2.2.2.2.2 j.1)) rfl (by decide) (fun h hs => by rw [List.map_append]; exact acc_more ho54 hs) ?_
                  exact fun a w hA hS => ⟨rfl,hS.pick (ids:=[0,400,2]) ⟨rfl,rfl,rfl,trivial⟩ (by decide)⟩
                exact An9
              exact An9
            exact An9
          exact An9
        exact An9
      ·
        intro D1 xs1 Lp2 Lp3 hxs1
        obtain ⟨hz1,hz2,hz3⟩:=hxs1
        refine XD_turn (P':=accP (starL [F,rowI 29 y.1 y.2.2.2.2.2]) g g101 g951 (hist ++ y.2.2.1) (rowsI y.2.2.2.2.2)) 1630 rfl (fun h hp => by rw [show rowsI y.2.2.2.2.2 = xs1.map fun j => blkI y.2.2.2.2.2 j.1 from (pieces_all (by decide) hz1 hz2 hz3 rfl).symm]; exact hp) ?_
        refine XD_open 1630 950 rfl (fun h hp => hp) (fun lv1 hlv1 => ?_)
        refine XD_open (α:=Unit) (φ:=fun _ => True) (Ps:=fun _ => [F,rowI 29 y.1 y.2.2.2.2.2]) 950 970 rfl (fun h hp => ⟨(),trivial,hp⟩) (fun _ _ => ?_)
        refine XD_ren 970 0 rfl ?_
        refine (XD_block (XD_then ?_))
        refine WD_seq ?_
        refine WD.pre (K':=[(3,_),(6,_),(7,_),(8,_),(11,_)]) (L':=[(0,_),(102,_),(103,_),(703,_),(900,_),(951,_),(952,_),(953,_),(954,_),(1600,_)]) ?_ ⟨rfl,rfl,rfl,rfl,rfl,trivial⟩ ⟨rfl,rfl,rfl,rfl,rfl,rfl,rfl,rfl,rfl,rfl,trivial⟩
        refine Dr9 (Dp9 rfl rfl (by decide) (Pb9 (r:=953) rfl Tryz.isAgg165 rfl rfl rfl) (WLD_cons0 rfl rfl (OpT_storeB1 (r:=703) rfl Tryz.sizeOf165 rfl rfl rfl hlv1 (by simp) rfl ?_)))
        refine (WLD_nil (XD_then ?_))
        refine WD.pre (K':=[(3,_),(6,_),(7,_),(8,_),(11,_)]) (L':=[(0,_),(102,_),(103,_),(703,_),(900,_),(951,_),(952,_),(953,_),(954,_),(1600,_)]) ?_ ⟨rfl,rfl,rfl,rfl,rfl,trivial⟩ ⟨rfl,rfl,rfl,rfl,rfl,rfl,rfl,rfl,rfl,rfl,trivial⟩
        refine Dr9 (Dp9 rfl rfl (by decide) (F9 2 rfl rfl) (Dp9 rfl rfl (by decide) (Pb9 (r:=103) rfl Tryz.isAgg3 rfl rfl rfl) (Dp9 rfl rfl (by decide) (Pn9 rfl rfl rfl (run_add _ _ _ _ _ (by have:=levels_le hu; have h2 : (aboveD d).2.1 ≤ d.length + 1:=above_levels _ _; omega))) (Dp9 rfl rfl (by decide) (F9 2 rfl rfl) (WLD_cons0 rfl rfl (OpT_storeB1 (r:=103) rfl Tryz.sizeOf3 rfl rfl rfl rfl (by rw [nodeC_length zeroId_length]; decide) (show _ = nodeC kind (d.length : Int) ((y.2.2.2.1 + 1 : Nat) : Int) zeroId from rfl) ?_))))))
        refine (WLD_nil (XD_block ?_))
        refine XD_turn (P':=bldP g (hist ++ (y.2.2.1 ++ rowsI y.2.2.2.2.2))) 951 rfl (fun h hp => by rw [← List.append_assoc]; exact hp) ?_
        refine XD_ren 951 701 rfl ?_
        refine XD_ren 952 702 rfl ?_
        refine XD_ren 954 704 rfl ?_
        refine XD_join [1600,900] 900 (marksP (D1 :: y.2.1)) rfl (by decide) (fun h hs => marks_more hs) ?_
        exact XD_round (lv1,D1 :: y.2.1,y.2.2.1 ++ rowsI y.2.2.2.2.2,y.2.2.2.1 + 1,f1,(rowsI y.2.2.2.2.2).map sha) ⟨hlv1,(show Up d y.2.2.1 y.2.2.2.1 (f1 + 1) y.2.2.2.2.2 from hf1 ▸ hu).step hgt,by dsimp only; omega⟩ (by show f1 < y.2.2.2.2.1; omega) rfl ⟨rfl,rfl,rfl,rfl,trivial⟩ ⟨rfl,rfl,rfl,rfl,rfl,rfl,rfl,rfl,trivial⟩
    ·
      have hle : ¬ 1 < y.2.2.2.2.2.length:=by have:=of_decide_eq_false hc40; omega
      obtain ⟨e1,e2,e3⟩:=hu.done hle
      refine WD_exit (XD_then_exit (XD_then_exit (XD_block_exit (XD_then ?_))))
      refine WD_seq ?_
      refine WD_seq ?_
      refine WD.pre (K':=[(3,_),(6,_),(7,_),(8,_),(40,_)]) (L':=[(0,_),(102,_),(103,_),(701,_),(702,_),(703,_),(704,_),(900,_)]) ?_ ⟨rfl,rfl,rfl,rfl,rfl,trivial⟩ ⟨rfl,rfl,rfl,rfl,rfl,rfl,rfl,rfl,trivial⟩
      refine Dr9 (Dp9 rfl rfl (by decide) (Pb9 (r:=703) rfl Tryz.isAgg165 rfl rfl rfl) (Dp9 rfl rfl (by decide) (Pl9 (r:=704) rfl Tryz.runUnderlying165 rfl rfl (fun _ h => rp9 h)) (Dp9 rfl rfl (by decide) (Pn9 rfl rfl rfl (run_eql _ _ _ _ _ _)) (WLD_nil (XD_then ?_)))))
      refine WD_cond rfl (fun hc62 => ?_) (fun hc62 => ?_)
      ·
        have h1l : y.2.2.2.2.2.length = 1:=by have:=of_decide_eq_true hc62; omega
        have hid0:=hids.get (show 0 < y.2.2.2.2.2.length by omega)
        refine WD.pre (K':=[(3,_),(6,_),(7,_),(8,_),(40,_),(62,_)]) (L':=[(0,_),(102,_),(103,_),(701,_),(702,_),(703,_),(704,_),(900,_)]) ?_ ⟨rfl,rfl,rfl,rfl,rfl,rfl,trivial⟩ ⟨rfl,rfl,rfl,rfl,rfl,rfl,rfl,rfl,trivial⟩
        refine Dr9 (Dp9 rfl rfl (by decide) (Pb9 (r:=703) rfl Tryz.isAgg165 rfl rfl rfl) (Dp9 rfl rfl (by decide) (Pi9 (r:=704) rfl Tryz.runUnderlying165 Tryz.sizeOf29 rfl rfl rfl (fun _ h => rp9 h) (by omega)) (Dp9 rfl rfl (by decide) (Pz9 (r:=704) rfl Tryz.isAgg29 Tryz.sizeOf29 rfl rfl (fun _ h => rp9 h) ((bs_length _).trans hid0) (by decide) (idsC_get (k:=0) hids (by omega))) (Dp9 rfl rfl (by decide) (F9 3 rfl rfl) (WLD_cons0 rfl rfl (OpT_storeF (r:=103) rfl Tryz.sizeOf29 rfl rfl rfl ((bs_length _).trans hid0) (by rw [nodeC_length zeroId_length]; decide) (bs_one _) (node_over zeroId_length hid0) ?_))))))
        refine (WLD_nil (XD_then ?_))
        refine WD_seq ?_
        refine WD.pre (K':=[(3,_),(6,_),(7,_),(8,_),(40,_),(62,_)]) (L':=[(0,_),(102,_),(103,_),(701,_),(702,_),(703,_),(704,_),(900,_)]) ?_ ⟨rfl,rfl,rfl,rfl,rfl,rfl,trivial⟩ ⟨rfl,rfl,rfl,rfl,rfl,rfl,rfl,rfl,trivial⟩
        have htop : topF d = (y.2.2.2.2.2.getD 0 []):=by unfold topF; rw [← e3]; rw [getD_dflt (by omega)]
        have htl : ((y.2.2.2.2.2.getD 0 [])).length = 32:=hid0
        refine Dr9 (Dp9 rfl rfl (by decide) (Px9 (r:=103) rfl Tryz.isAgg42 Tryz.sizeOf42 rfl rfl (nodeC_length htl) (load_all (nodeC_length htl))) (Dc9 rfl rfl (by decide) (Oc9 1000 [0,102,103,701,702,703,704,900] [] rfl Tryz.call95 rfl rfl rfl (by decide) (by decide) (inode_spec kind (d.length : Int) (y.2.2.2.1 : Int) (y.2.2.2.2.2.getD 0 []) htl _) (fun v69 Ps69 hR69 => ?_))))
        obtain ⟨w69,rfl,rfl⟩:=hR69
        rw [e2,← htop]
        refine (Dp9 rfl rfl (by decide) (Pm9 rfl rfl) (Dp9 rfl rfl (by decide) (Pe9 rfl rfl rfl) (Dp9 rfl rfl (by decide) (Pe9 rfl rfl rfl) (Dp9 rfl rfl (by decide) (Pg9 rfl rfl) (Dp9 rfl rfl (by decide) (Pg9 rfl rfl) (WLD_nil (XD_then ?_)))))))
        refine WD_seq ?_
        refine WD.pre (K':=[(3,_),(6,_),(7,_),(8,_),(15,_),(40,_),(62,_)]) (L':=[(0,_),(102,_),(103,_),(701,_),(702,_),(703,_),(704,_),(900,_),(1000,_)]) ?_ ⟨rfl,rfl,rfl,rfl,rfl,rfl,rfl,trivial⟩ ⟨rfl,rfl,rfl,rfl,rfl,rfl,rfl,rfl,rfl,trivial⟩
        refine Dr9 (Dp9 rfl rfl (by decide) (Pb9 (r:=702) rfl Tryz.isAgg85 rfl rfl rfl) (Dp9 rfl rfl (by decide) (Pm9 rfl rfl) (Dc9 rfl rfl (by decide) (Oc9 1100 [0,102,103,702,703,704,900] [701,1000] rfl Tryz.call92 rfl rfl rfl (by decide) (by decide) (lay_spec g _ _ (nodeF kind d) (by have:=inodeR_len kind (d.length : Int) ((aboveD d).2.1 : Int) (topF d) (by rw [htop]; exact htl); unfold nodeF; omega) _) (fun v74 Ps74 hR74 => ?_)))))
        obtain ⟨rfl,rfl⟩:=hR74
        skip
        refine (WLD_cons0 rfl rfl (OpT_storeAll (r:=102) rfl Tryz.sizeOf29 rfl rfl rfl (by first | rfl | (rw [bs_length,htop]; exact htl)) ((bs_length _).trans (sha_length _)) (bs_one _) ?_))
        refine (WLD_nil (XD_then ?_))
        refine WD_ret ?_
        refine XD_turn (P':=bldP g (hist ++ blocksF kind d)) 1100 rfl (fun h hp => by unfold blocksF; rw [← e1,← List.append_assoc]; exact hp) ?_
        exact XD_retMs 900 (J:=[0,1100]) (Ps:=[_]) rfl (resC1 (r:=102) Tryz.results64 rfl Tryz.isAgg29 Tryz.sizeOf29 rfl ((bs_length _).trans (sha_length _))) ⟨rfl,rfl⟩ rfl (by decide) (by decide)
      ·
        have h0l : y.2.2.2.2.2.length = 0:=by have:=of_decide_eq_false hc62; omega
        refine WD_skip (XD_then ?_)
        refine WD_seq ?_
        refine WD.pre (K':=[(3,_),(6,_),(7,_),(8,_),(40,_),(62,_)]) (L':=[(0,_),(102,_),(103,_),(701,_),(702,_),(703,_),(704,_),(900,_)]) ?_ ⟨rfl,rfl,rfl,rfl,rfl,rfl,trivial⟩ ⟨rfl,rfl,rfl,rfl,rfl,rfl,rfl,rfl,trivial⟩
        have htop : topF d = zeroId:=by unfold topF; rw [← e3]; rw [List.length_eq_zero_iff.1 h0l]; rfl
        have htl : (zeroId).length = 32:=zeroId_length
        refine Dr9 (Dp9 rfl rfl (by decide) (Px9 (r:=103) rfl Tryz.isAgg42 Tryz.sizeOf42 rfl rfl (nodeC_length htl) (load_all (nodeC_length htl))) (Dc9 rfl rfl (by decide) (Oc9 1000 [0,102,103,701,702,703,704,900] [] rfl Tryz.call95 rfl rfl rfl (by decide) (by decide) (inode_spec kind (d.length : Int) (y.2.2.2.1 : Int) zeroId htl _) (fun v69 Ps69 hR69 => ?_))))
        obtain ⟨w69,rfl,rfl⟩:=hR69
        rw [e2,← htop]
        refine (Dp9 rfl rfl (by decide) (Pm9 rfl rfl) (Dp9 rfl rfl (by decide) (Pe9 rfl rfl rfl) (Dp9 rfl rfl (by decide) (Pe9 rfl rfl rfl) (Dp9 rfl rfl (by decide) (Pg9 rfl rfl) (Dp9 rfl rfl (by decide) (Pg9 rfl rfl) (WLD_nil (XD_then ?_)))))))
        refine WD_seq ?_
        refine WD.pre (K':=[(3,_),(6,_),(7,_),(8,_),(15,_),(40,_),(62,_)]) (L':=[(0,_),(102,_),(103,_),(701,_),(702,_),(703,_),(704,_),(900,_),(1000,_)]) ?_ ⟨rfl,rfl,rfl,rfl,rfl,rfl,rfl,trivial⟩ ⟨rfl,rfl,rfl,rfl,rfl,rfl,rfl,rfl,rfl,trivial⟩
        refine Dr9 (Dp9 rfl rfl (by decide) (Pb9 (r:=702) rfl Tryz.isAgg85 rfl rfl rfl) (Dp9 rfl rfl (by decide) (Pm9 rfl rfl) (Dc9 rfl rfl (by decide) (Oc9 1100 [0,102,103,702,703,704,900] [701,1000] rfl Tryz.call92 rfl rfl rfl (by decide) (by decide) (lay_spec g _ _ (nodeF kind d) (by have:=inodeR_len kind (d.length : Int) ((aboveD d).2.1 : Int) (topF d) (by rw [htop]; exact htl); unfold nodeF; omega) _) (fun v74 Ps74 hR74 => ?_)))))
        obtain ⟨rfl,rfl⟩:=hR74
        skip
        refine (WLD_cons0 rfl rfl (OpT_storeAll (r:=102) rfl Tryz.sizeOf29 rfl rfl rfl (by first | rfl | (rw [bs_length,htop]; exact htl)) ((bs_length _).trans (sha_length _)) (bs_one _) ?_))
        refine (WLD_nil (XD_then ?_))
        refine WD_ret ?_
        refine XD_turn (P':=bldP g (hist ++ blocksF kind d)) 1100 rfl (fun h hp => by unfold blocksF; rw [← e1,← List.append_assoc]; exact hp) ?_
        exact XD_retMs 900 (J:=[0,1100]) (Ps:=[_]) rfl (resC1 (r:=102) Tryz.results64 rfl Tryz.isAgg29 Tryz.sizeOf29 rfl ((bs_length _).trans (sha_length _))) ⟨rfl,rfl⟩ rfl (by decide) (by decide)
open Go.RowKit
theorem sV_inj (a b : List UInt8) (h : sV a = sV b) : a = b:=by
  injection h with h
  exact strB_inj h
theorem sV_beq (a b : List UInt8) : (strB a == strB b) = decide (a = b):=by
  rw [strB_beq]
  by_cases h : a = b <;> simp [h]
theorem findNow_str (z : List UInt8) : ∀ (es : List (List UInt8 × Value)) (a : List MapEntry) (i : Nat),a.map (fun e => (e.key,e.val)) = es.map (fun p => (sV p.1,p.2)) → Instr.findNow .string (sV z) a i = some (findG z es i)
  | [],a,i,ha => by simp at ha; subst ha; rfl
  | p :: es,a,i,ha => by
    cases a with
    | nil => simp at ha
    | cons e a =>
      simp only [List.map_cons,List.cons.injEq,Prod.mk.injEq] at ha
      rw [Instr.findNow,ha.1.1,findG]
      have hs : Instr.sameNow .string (sV z) (sV p.1) = some (decide (z = p.1)):=by
        rw [← sV_beq]
        rfl
      rw [hs]
      by_cases h : z = p.1
      · simp [h,ha.1.2]
      · rw [if_neg h,decide_eq_false h]
        exact findNow_str z es a (i + 1) ha.2
theorem keyT_str {P : Program} {kt : TypeId} (hk : P.underlying kt = some .string) : KeyT P kt sV (fun _ => True) where
  check em k w _:=MapKept.run_checkKey (k:=sV k) hk trivial em _
  find k w es a _ _ ha:=MapKept.run_findKey hk (findNow_str k es a 0 ha)
  inj:=sV_inj
  stays k w:=MapKept.run_keyThatStays (d:=.string) (k:=sV k) trivial
theorem keyS : KeyT Tryz.prog 9 sV (fun _ => True):=keyT_str Tryz.underlying9
abbrev mapS (g : Nat) (es : List (List UInt8 × Value)) (it : Option (It (List UInt8))) : HP:=mapQ sV (fun _ => True) g es it
theorem starL_out {L1 L2 : List HP} {P : HP} {h : Hlt} (hs : starL (L1 ++ P :: L2) h) : starL [P,starL (L1 ++ L2)] h:=by
  obtain ⟨f,h1,h2,h3⟩:=hs
  have hP : P (f L1.length):=h1 L1.length P (by simp)
  have hsk : ∀ i i' : Nat,i ≠ i' → (if i < L1.length then i else i + 1) ≠ (if i' < L1.length then i' else i' + 1):=fun i i' hne => by split <;> split <;> omega
  have hsL : ∀ i : Nat,(if i < L1.length then i else i + 1) ≠ L1.length:=fun i => by split <;> omega
  refine ⟨fun k => match k with | 0 => f L1.length | 1 => (fun g => if (f L1.length g).isSome then none else h g) | _ => fun _ => none,?_,?_,?_⟩
  · intro k Q hk
    match k,hk with
    | 0,hk => simp at hk; subst hk; exact hP
    | 1,hk =>
      simp at hk
      subst hk
      refine ⟨fun j => f (if j < L1.length then j else j + 1),fun j Q hj => ?_,fun j j' g hne hg => ?_,fun j g o hg => ?_⟩
      · by_cases hjl : j < L1.length
        · simp only [hjl,if_true]
          exact h1 j Q (by rw [List.getElem?_append_left hjl] at hj ⊢; exact hj)
        · simp only [hjl,if_false]
          refine h1 (j + 1) Q ?_
          rw [List.getElem?_append_right (by omega)] at hj ⊢
          rw [show j + 1 - L1.length = (j - L1.length) + 1 by omega]
          simpa using hj
      · exact h2 _ _ g (hsk j j' hne) hg
      · have hg2 : f (if j < L1.length then j else j + 1) g = some o:=hg
        have hd : f L1.length g = none:=h2 _ _ g (hsL j) (by rw [hg2]; rfl)
        simp only [hd,Option.isSome_none,Bool.false_eq_true,if_false]
        exact h3 _ _ _ hg2
    | k + 2,hk => simp at hk
  · intro k k' g hne hg
    match k,k',hne with
    | 0,0,hne => exact absurd rfl hne
    | 0,1,_ => simp only at hg ⊢; rw [if_pos hg]
    | 1,0,_ =>
      simp only at hg ⊢
      cases hv : f L1.length g with
      | none => rfl
      | some o => rw [hv] at hg; simp at hg
    | 1,1,hne => exact absurd rfl hne
    | 0,k + 2,_ => rfl
    | 1,k + 2,_ => rfl
    | k + 2,k',_ => simp at hg
  · intro k g o hg
    match k with
    | 0 => exact h3 _ _ _ hg
    | 1 =>
      simp only at hg
      split at hg
      · cases hg
      · exact hg
    | k + 2 => cases hg
theorem starL_in {L1 L2 : List HP} {P : HP} {h : Hlt} (hs : starL [P,starL (L1 ++ L2)] h) : starL (L1 ++ P :: L2) h:=by
  obtain ⟨e,h1,h2,h3⟩:=hs
  have hP:=h1 0 _ rfl
  obtain ⟨f,f1,f2,f3⟩:=h1 1 _ rfl
  have hdis : ∀ j g,(f j g).isSome = true → e 0 g = none:=fun j g hg => by
    obtain ⟨o,ho⟩:=Option.isSome_iff_exists.1 hg
    exact h2 1 0 g (by decide) (by rw [f3 _ _ _ ho]; rfl)
  refine ⟨fun j => if j < L1.length then f j else if j = L1.length then e 0 else f (j - 1),fun j Q hj => ?_,fun j j' g hne hg => ?_,fun j g o hg => ?_⟩
  · by_cases hl : j < L1.length
    · simp only [hl,if_true]
      exact f1 j Q (by rw [List.getElem?_append_left hl] at hj ⊢; exact hj)
    · by_cases he : j = L1.length
      · subst he
        simp at hj
        subst hj
        simpa using hP
      · simp only [hl,he,if_false]
        refine f1 (j - 1) Q ?_
        rw [List.getElem?_append_right (by omega)] at hj ⊢
        rw [show j - L1.length = (j - 1 - L1.length) + 1 by omega] at hj
        simpa using hj
  · by_cases hl : j < L1.length
    · simp only [hl,if_true] at hg
      by_cases hl' : j' < L1.length
      · simp only [hl',if_true]; exact f2 j j' g hne hg
      · by_cases he' : j' = L1.length
        · simp only [hl',he',if_false,if_true,Nat.lt_irrefl]; exact hdis j g hg
        · simp only [hl',he',if_false]; exact f2 j (j' - 1) g (by omega) hg
    · by_cases he : j = L1.length
      · have hl0 : ¬ L1.length < L1.length:=Nat.lt_irrefl _
        simp only [he,hl0,if_false,if_true] at hg
        have hx : ∀ i,f i g = none:=fun i => by
          cases hv : f i g with
          | none => rfl
          | some o => have:=hdis i g (by rw [hv]; rfl); rw [this] at hg; cases hg
        by_cases hl' : j' < L1.length
        · simp only [hl',if_true]; exact hx _
        · have he' : j' ≠ L1.length:=fun q => hne (he.trans q.symm)
          simp only [hl',he',if_false]; exact hx _
      · simp only [hl,he,if_false] at hg
        by_cases hl' : j' < L1.length
        · simp only [hl',if_true]; exact f2 (j - 1) j' g (by omega) hg
        · by_cases he' : j' = L1.length
          · simp only [hl',he',if_false,if_true,Nat.lt_irrefl]; exact hdis _ g hg
          · simp only [hl',he',if_false]; exact f2 (j - 1) (j' - 1) g (by omega) hg
  · by_cases hl : j < L1.length
    · simp only [hl,if_true] at hg; exact h3 1 _ _ (f3 _ _ _ hg)
    · by_cases he : j = L1.length
      · have hl0 : ¬ L1.length < L1.length:=Nat.lt_irrefl _
        simp only [he,hl0,if_false,if_true] at hg; exact h3 0 _ _ hg
      · simp only [hl,he,if_false] at hg; exact h3 1 _ _ (f3 _ _ _ hg)
inductive HT where
  | mk (g gd gf : Nat) (dirs : List (List UInt8 × HT)) (files : List (List UInt8 × Value × List UInt8)) : HT
def HT.g : HT → Nat
  | .mk g _ _ _ _ => g
def dirM (dirs : List (List UInt8 × HT)) : List (List UInt8 × Value):=dirs.map fun d => (d.1,.pointer (some ⟨d.2.g,0,none⟩))
def filM (files : List (List UInt8 × Value × List UInt8)) : List (List UInt8 × Value):=files.map fun f => (f.1,f.2.1)
mutual
def htP : HT → HP
  | .mk g gd gf dirs files => starL [blk g 135 [.map (some gd),.map (some gf)],mapS gd (dirM dirs) none,mapS gf (filM files) none,starL (htsP dirs)]
def htsP : List (List UInt8 × HT) → List HP
  | [] => []
  | d :: ds => htP d.2 :: htsP ds
end
theorem htP_mk (g gd gf : Nat) (dirs : List (List UInt8 × HT)) (files : List (List UInt8 × Value × List UInt8)) : htP (.mk g gd gf dirs files) = starL [blk g 135 [.map (some gd),.map (some gf)],mapS gd (dirM dirs) none,mapS gf (filM files) none,starL (htsP dirs)]:=by rw [htP]
theorem htsP_nil : htsP [] = []:=by rw [htsP]
theorem htsP_cons (d : List UInt8 × HT) (ds : List (List UInt8 × HT)) : htsP (d :: ds) = htP d.2 :: htsP ds:=by rw [htsP]
theorem htsP_app : ∀ (a b : List (List UInt8 × HT)),htsP (a ++ b) = htsP a ++ htsP b
  | [],b => by rw [htsP_nil]; rfl
  | d :: a,b => by rw [List.cons_append,htsP_cons,htsP_app a b,htsP_cons]; rfl
theorem kids_out {a c : List (List UInt8 × HT)} {d : List UInt8 × HT} {h : Hlt} (hs : starL (htsP (a ++ d :: c)) h) : starL [htP d.2,starL (htsP (a ++ c))] h:=by
  rw [htsP_app,htsP_cons] at hs
  rw [htsP_app]
  exact starL_out hs
theorem kids_in {a c : List (List UInt8 × HT)} {d : List UInt8 × HT} {h : Hlt} (hs : starL [htP d.2,starL (htsP (a ++ c))] h) : starL (htsP (a ++ d :: c)) h:=by
  rw [htsP_app] at hs
  rw [htsP_app,htsP_cons]
  exact starL_in hs
def lookA {α : Type} (k : List UInt8) : List (List UInt8 × α) → Option α
  | [] => none
  | p :: es => if k = p.1 then some p.2 else lookA k es
theorem lookQ_mapA {α : Type} (k : List UInt8) (f : α → Value) : ∀ es : List (List UInt8 × α),lookQ k (es.map fun e => (e.1,f e.2)) = (lookA k es).map f
  | [] => rfl
  | p :: es => by
    show (if k = p.1 then some (f p.2) else lookQ k (es.map fun e => (e.1,f e.2))) = _
    rw [lookA,lookQ_mapA k f es]
    split <;> rfl
theorem lookQ_dir (k : List UInt8) (dirs : List (List UInt8 × HT)) : lookQ k (dirM dirs) = (lookA k dirs).map fun t => .pointer (some ⟨t.g,0,none⟩):=lookQ_mapA k (fun t : HT => Value.pointer (some ⟨t.g,0,none⟩)) dirs
theorem lookQ_fil (k : List UInt8) (files : List (List UInt8 × Value × List UInt8)) : lookQ k (filM files) = (lookA k files).map (·.1):=lookQ_mapA k (fun p : Value × List UInt8 => p.1) files
theorem lookA_split {α : Type} {k : List UInt8} {t : α} : ∀ {es : List (List UInt8 × α)},lookA k es = some t → ∃ a c,es = a ++ (k,t) :: c ∧ lookA k a = none
  | [],h => by cases h
  | p :: es,h => by
    rw [lookA] at h
    by_cases hk : k = p.1
    · rw [if_pos hk] at h; injection h with h; subst h; exact ⟨[],es,by rw [hk]; rfl,rfl⟩
    · rw [if_neg hk] at h
      obtain ⟨a,c,rfl,h2⟩:=lookA_split h
      exact ⟨p :: a,c,rfl,by rw [lookA,if_neg hk,h2]⟩
def canPut : List (List UInt8) → HT → Bool
  | [],_ => false
  | [n],.mk _ _ _ dirs files => (lookA n files).isNone && (lookA n dirs).isNone
  | n :: m :: q,.mk _ _ _ dirs files => (lookA n files).isNone && (match lookA n dirs with
    | none => true
    | some t => canPut (m :: q) t)
def Put : List (List UInt8) → Value → List UInt8 → HT → HT → Prop
  | [],_,_,_,_ => False
  | [n],v,d,.mk g gd gf dirs files,T' => T' = .mk g gd gf dirs (files ++ [(n,v,d)])
  | n :: m :: q,v,d,.mk g gd gf dirs files,T' =>
    (∃ a c t t',dirs = a ++ (n,t) :: c ∧ lookA n a = none ∧ Put (m :: q) v d t t' ∧ T' = .mk g gd gf (a ++ (n,t') :: c) files) ∨
    (lookA n dirs = none ∧ ∃ g1 gd1 gf1 t',Put (m :: q) v d (.mk g1 gd1 gf1 [] []) t' ∧ T' = .mk g gd gf (dirs ++ [(n,t')]) files)
open Go.RowKit
set_option maxRecDepth 8000
theorem starL_emp {Ps : List HP} {h : Hlt} (hs : starL Ps h) : starL (Ps ++ [starL []]) h:=by
  obtain ⟨f,h1,h2,h3⟩:=hs
  refine ⟨fun k => if k < Ps.length then f k else fun _ => none,fun k Q hk => ?_,fun k k' g hne hg => ?_,fun k g o hg => ?_⟩
  · by_cases hl : k < Ps.length
    · simp only [hl,if_true]
      exact h1 k Q (by rwa [List.getElem?_append_left hl] at hk)
    · rw [List.getElem?_append_right (by omega)] at hk
      have hk0 : k - Ps.length = 0:=by
        cases hkk : k - Ps.length with
        | zero => rfl
        | succ j => rw [hkk] at hk; simp at hk
      rw [hk0] at hk
      simp at hk
      subst hk
      exact ⟨fun _ _ => none,by simp,by simp,by simp⟩
  · by_cases hl : k < Ps.length
    · simp only [hl,if_true] at hg
      by_cases hl' : k' < Ps.length
      · simp only [hl',if_true]; exact h2 k k' g hne hg
      · simp only [hl',if_false]
    · simp only [hl,if_false] at hg; simp at hg
  · by_cases hl : k < Ps.length
    · simp only [hl,if_true] at hg; exact h3 _ _ _ hg
    · simp only [hl,if_false] at hg; cases hg
section
variable {P : Program} {t e : TypeId}
theorem run_ptrNe (hu : P.underlying t = some (.pointer e)) (A : Addr) (x y : Operand) (w : World) : ((do eqGuard .neq t x y (.pointer (some A)) (.pointer none); binOp .neq t (.pointer (some A)) (.pointer none) : Sem Value)).run P w = .ok (.bool true) w:=by
  have h : (Op.equalIn (9999 + 1) t (.pointer (some A)) (.pointer none)).run P w = .ok false w:=by
    unfold Op.equalIn
    simp [run_underlying hu]
  simp only [eqGuard,binOp,Op.equal,Sem.run_bind,Sem.run_pure,Result.andThen_ok]
  simp [show Op.maxDepth = 9999 + 1 from rfl,h]
theorem run_nilEq (hu : P.underlying t = some (.pointer e)) (x y : Operand) (w : World) : ((do eqGuard .eql t x y (.pointer none) (.pointer none); binOp .eql t (.pointer none) (.pointer none) : Sem Value)).run P w = .ok (.bool true) w:=by
  have h : (Op.equalIn (9999 + 1) t (.pointer none) (.pointer none)).run P w = .ok true w:=by
    unfold Op.equalIn
    simp [run_underlying hu]
  simp only [eqGuard,binOp,Op.equal,Sem.run_bind,Sem.run_pure,Result.andThen_ok]
  simp [show Op.maxDepth = 9999 + 1 from rfl,h]
theorem run_nilNe (hu : P.underlying t = some (.pointer e)) (x y : Operand) (w : World) : ((do eqGuard .neq t x y (.pointer none) (.pointer none); binOp .neq t (.pointer none) (.pointer none) : Sem Value)).run P w = .ok (.bool false) w:=by
  have h : (Op.equalIn (9999 + 1) t (.pointer none) (.pointer none)).run P w = .ok true w:=by
    unfold Op.equalIn
    simp [run_underlying hu]
  simp only [eqGuard,binOp,Op.equal,Sem.run_bind,Sem.run_pure,Result.andThen_ok]
  simp [show Op.maxDepth = 9999 + 1 from rfl,h]
end
theorem put_new {k : List UInt8} {v : Value} {es : List (List UInt8 × Value)} (h : lookQ k es = none) : putQ k v es = es ++ [(k,v)]:=by unfold putQ; rw [h]; rfl
theorem dirM_app (a b : List (List UInt8 × HT)) : dirM (a ++ b) = dirM a ++ dirM b:=List.map_append
theorem filM_app (a b : List (List UInt8 × Value × List UInt8)) : filM (a ++ b) = filM a ++ filM b:=List.map_append
theorem W_openHT {P : Program} {E : Env} {n : Nat} {K : Slots} {L : Res} {Q : Exit → Act → World → Prop} {c : Code} (r b : Nat) {g gd gf : Nat} {dirs : List (List UInt8 × HT)} {files : List (List UInt8 × Value × List UInt8)} (hr : look L r = some (htP (.mk g gd gf dirs files)))
    (k : W P E n c K (En b [blk g 135 [.map (some gd),.map (some gf)],mapS gd (dirM dirs) none,mapS gf (filM files) none,starL (htsP dirs)] ++ (r,emp) :: L) Q) : W P E n c K L Q :=
  W_split r b _ hr (fun h hp => by rw [htP_mk] at hp; exact hp) k
theorem empty_spec (F : HP) : CallsS Tryz.prog 35 #[] F [] (fun r Ps => ∃ g gd gf,r = .pointer (some ⟨g,0,none⟩) ∧ Ps = [htP (.mk g gd gf [] [])]):=by
 refine callsS_enter Tryz.func35 rfl Tryz.ntmps35 (by simp) (fun E => ?_)
 refine Q9 (R9 (G9 rfl rfl (N9 (X9 (Q9 (R9 (Lc9 rfl rfl (by decide) (OpT_makeMapQ (r:=150) (enc:=sV) (ok:=fun _ => True) rfl (fun gd => ?_)))))))))
 skip
 refine (Lc9 rfl rfl (by decide) (OpT_makeMapQ (r:=151) (enc:=sV) (ok:=fun _ => True) rfl (fun gf => ?_)))
 skip
 refine (L9 rfl (Pu_build (V:=.agg #[.map (some gd),.map (some gf)]) [(0,1),(1,1)] ([.map none,.map none]) rfl rfl (by kernel_rfl) (by kernel_rfl) (.one rfl rfl (by simp [List.length_cons]) rfl (.one rfl rfl (by simp [List.length_cons]) rfl (.nil _))) rfl) (Lc9 rfl rfl (by decide) (OpT_box (r:=101) rfl rfl rfl (fun g101 => (G9 rfl rfl (N9 (X9 ?_)))))))
 refine W_ret ?_
 refine X_join [101,150,151] 200 (htP (.mk g101 gd gf [] [])) rfl (by decide) (fun h hs => by rw [htP_mk,htsP_nil]; exact starL_emp hs) ?_
 exact Xe9 [200] (Ps:=[_]) (res1 Tryz.results35 rfl) rfl (by decide) ⟨_,gd,gf,rfl,rfl⟩
theorem rdS_tail {lv : Value} {ls tl : List (List UInt8)} {n : List UInt8} {h : Hlt} (hr : rdS lv ls h) (htl : ls = n :: tl) : rdS (subV 1 lv 1 ls.length) tl h:=by
  have h1:=rdP_sub hr (a:=1) (b:=ls.length) (by rw [htl,List.length_cons]; omega) (Nat.le_refl _)
  subst htl
  refine rdP_cast h1 ?_ ?_
  · rw [Nat.mul_one,Nat.mul_one]
    show ((ss (n :: tl)).drop 1).take _ = _
    rw [show (ss (n :: tl)).drop 1 = ss tl from rfl,List.take_of_length_le]
    rw [ss_length,List.length_cons]
    omega
  · rw [List.length_cons]; omega
theorem dirM_same {a c : List (List UInt8 × HT)} {n : List UInt8} {t T1 : HT} (h : T1.g = t.g) : dirM (a ++ (n,T1) :: c) = dirM (a ++ (n,t) :: c):=by
  unfold dirM
  rw [List.map_append,List.map_append,List.map_cons,List.map_cons]
  rw [h]
theorem dirM_new {dirs : List (List UInt8 × HT)} {n : List UInt8} {g1 : Nat} {T1 : HT} (h : T1.g = g1) : dirM (dirs ++ [(n,T1)]) = dirM dirs ++ [(n,.pointer (some ⟨g1,0,none⟩))]:=by rw [dirM_app,← h]; rfl
theorem starL_swap {A B : HP} {h : Hlt} (hs : starL [A,B] h) : starL [B,A] h:=by
  obtain ⟨f,h1,h2,h3⟩:=hs
  refine ⟨fun k => if k = 0 then f 1 else if k = 1 then f 0 else fun _ => none,fun k Q hk => ?_,fun k k' g hne hg => ?_,fun k g o hg => ?_⟩
  · match k,hk with
    | 0,hk => simp at hk; subst hk; exact h1 1 _ rfl
    | 1,hk => simp at hk; subst hk; exact h1 0 _ rfl
    | k + 2,hk => simp at hk
  · match k,k',hne with
    | 0,0,hne => exact absurd rfl hne
    | 0,1,_ => exact h2 1 0 g (by decide) hg
    | 1,0,_ => exact h2 0 1 g (by decide) hg
    | 1,1,hne => exact absurd rfl hne
    | 0,k + 2,_ => rfl
    | 1,k + 2,_ => rfl
    | k + 2,k',_ => simp at hg
  · match k,hg with
    | 0,hg => exact h3 _ _ _ hg
    | 1,hg => exact h3 _ _ _ hg
    | k + 2,hg => simp at hg
theorem kids_new {dirs : List (List UInt8 × HT)} {n : List UInt8} {T1 : HT} {h : Hlt} (hs : starL [starL (htsP dirs),htP T1] h) : starL (htsP (dirs ++ [(n,T1)])) h:=by
  have h1 : starL [htP T1,starL (htsP dirs ++ [])] h:=by rw [List.append_nil]; exact starL_swap hs
  have:=starL_in h1
  rw [htsP_app,htsP_cons,htsP_nil]
  exact this
theorem put_file (g gd gf : Nat) (dirs : List (List UInt8 × HT)) (files : List (List UInt8 × Value × List UInt8)) (lv v : Value) (ls : List (List UInt8)) (n d : List UInt8) (hl : 0 < ls.length) (hl2 : ls.length ≤ 1000000) (hn : ls.getD 0 [] = n) (F : HP) (hF : ∀ h,F h → rdS lv ls h) {p : Value × List UInt8} (hfil : lookA n files = some p) (hcan : canPut ls (.mk g gd gf dirs files) = false) : CallsS Tryz.prog 37 #[.pointer (some ⟨g,0,none⟩),lv,v] F [htP (.mk g gd gf dirs files)] (fun r Ps => ∃ T',T'.g = g ∧ r = .bool (canPut ls (.mk g gd gf dirs files)) ∧ (canPut ls (.mk g gd gf dirs files) = true → Put ls v d (.mk g gd gf dirs files) T') ∧ Ps = [htP T']):=by
 refine callsS_enter Tryz.func37 rfl Tryz.ntmps37 (by simp) (fun E => ?_)
 refine Q9 (R9 (G9 rfl rfl (N9 (X9 (Q9 ?_)))))
 refine W_openHT 1 600 rfl ?_
 refine R9 (M9 rfl rfl (L9 rfl (Pu_idxS1 (r:=0) rfl Tryz.runUnderlying63 Tryz.sizeOf9 rfl rfl rfl hF (by omega)) (L9 rfl (Py9 (r:=0) rfl Tryz.isAgg9 rfl rfl hF (ss_at (k:=0) (by omega))) ?_)))
 rw [hn]
 refine (G9 rfl rfl (N9 (X9 ?_)))
 refine Q9 (R9 (M9 rfl rfl (L9 rfl (Pu_nilCheck rfl rfl) (L9 rfl (F9 1 rfl rfl) (L9 rfl (Pb9 (r:=600) rfl Tryz.isAgg133 rfl rfl rfl) (M9 rfl rfl (L9 rfl (Pu_lookupOkQ (r:=602) keyS rfl Tryz.underlying133 Tryz.zeroValue36 rfl rfl trivial rfl) ?_)))))))
 rw [lookQ_fil,hfil]
 refine (M9 rfl rfl (L9 rfl (Pe9 rfl rfl rfl) (L9 rfl (Pe9 rfl rfl rfl) (G9 rfl rfl (G9 rfl rfl (N9 (X9 ?_)))))))
 refine Q9 (R9 (M9 rfl rfl (L9 rfl (Pu_nilCheck rfl rfl) (L9 rfl (F9 0 rfl rfl) (L9 rfl (Pb9 (r:=600) rfl Tryz.isAgg132 rfl rfl rfl) (M9 rfl rfl (L9 rfl (Pu_lookupQ (r:=601) keyS rfl Tryz.underlying132 Tryz.zeroValue81 rfl rfl trivial rfl) ?_)))))))
 rw [lookQ_dir]
 refine (G9 rfl rfl (N9 (X9 ?_)))
 refine Q9 ?_
 refine W_block ?_
 refine Q9 (R9 (M9 rfl rfl (M9 rfl rfl (WL_gF rfl rfl rfl rfl rfl (by decide) (WL_gF rfl rfl rfl rfl rfl (by decide) (WL_gF rfl rfl rfl rfl rfl (by decide) (WL_gF rfl rfl rfl rfl rfl (by decide) (WL_gF rfl rfl rfl rfl rfl (by decide) (WL_gF rfl rfl rfl rfl rfl (by decide) (WL_gF rfl rfl rfl rfl rfl (by decide) (L9 rfl (Pu_pickT rfl rfl rfl rfl) (G9 rfl rfl (N9 (X9 ?_))))))))))))))
 refine W_true rfl (rfl) ?_
 refine Q9 (R9 (G9 rfl rfl (N9 (X9 ?_))))
 refine W_ret (X_block_ret (X_then_ret ?_))
 refine X_join [600,601,602,603] 1 (htP (.mk g gd gf dirs files)) rfl (by decide) (fun h hs => by rw [htP_mk]; exact hs) ?_
 exact Xq9 [1] (Ps:=[_]) (res1 Tryz.results37 rfl) rfl (by decide) ⟨(.mk g gd gf dirs files),rfl,by rw [hcan],fun h => absurd (hcan ▸ h) (by simp),rfl⟩
theorem put_one0 (g gd gf : Nat) (dirs : List (List UInt8 × HT)) (files : List (List UInt8 × Value × List UInt8)) (lv v : Value) (ls : List (List UInt8)) (n d : List UInt8) (hl : 0 < ls.length) (hl2 : ls.length ≤ 1000000) (hn : ls.getD 0 [] = n) (F : HP) (hF : ∀ h,F h → rdS lv ls h) (hfil : lookA n files = none) {t : HT} (hdir : lookA n dirs = some t) (h1 : ls.length = 1) (hcan : canPut ls (.mk g gd gf dirs files) = false) : CallsS Tryz.prog 37 #[.pointer (some ⟨g,0,none⟩),lv,v] F [htP (.mk g gd gf dirs files)] (fun r Ps => ∃ T',T'.g = g ∧ r = .bool (canPut ls (.mk g gd gf dirs files)) ∧ (canPut ls (.mk g gd gf dirs files) = true → Put ls v d (.mk g gd gf dirs files) T') ∧ Ps = [htP T']):=by
 have hL : decide ((ls.length : Int) = 1) = true:=decide_eq_true (by omega)
 refine callsS_enter Tryz.func37 rfl Tryz.ntmps37 (by simp) (fun E => ?_)
 refine Q9 (R9 (G9 rfl rfl (N9 (X9 (Q9 ?_)))))
 refine W_openHT 1 600 rfl ?_
 refine R9 (M9 rfl rfl (L9 rfl (Pu_idxS1 (r:=0) rfl Tryz.runUnderlying63 Tryz.sizeOf9 rfl rfl rfl hF (by omega)) (L9 rfl (Py9 (r:=0) rfl Tryz.isAgg9 rfl rfl hF (ss_at (k:=0) (by omega))) ?_)))
 rw [hn]
 refine (G9 rfl rfl (N9 (X9 ?_)))
 refine Q9 (R9 (M9 rfl rfl (L9 rfl (Pu_nilCheck rfl rfl) (L9 rfl (F9 1 rfl rfl) (L9 rfl (Pb9 (r:=600) rfl Tryz.isAgg133 rfl rfl rfl) (M9 rfl rfl (L9 rfl (Pu_lookupOkQ (r:=602) keyS rfl Tryz.underlying133 Tryz.zeroValue36 rfl rfl trivial rfl) ?_)))))))
 rw [lookQ_fil,hfil]
 refine (M9 rfl rfl (L9 rfl (Pe9 rfl rfl rfl) (L9 rfl (Pe9 rfl rfl rfl) (G9 rfl rfl (G9 rfl rfl (N9 (X9 ?_)))))))
 refine Q9 (R9 (M9 rfl rfl (L9 rfl (Pu_nilCheck rfl rfl) (L9 rfl (F9 0 rfl rfl) (L9 rfl (Pb9 (r:=600) rfl Tryz.isAgg132 rfl rfl rfl) (M9 rfl rfl (L9 rfl (Pu_lookupQ (r:=601) keyS rfl Tryz.underlying132 Tryz.zeroValue81 rfl rfl trivial rfl) ?_)))))))
 rw [lookQ_dir,hdir]
 refine (G9 rfl rfl (N9 (X9 ?_)))
 refine Q9 ?_
 refine W_block ?_
 refine Q9 (R9 (M9 rfl rfl (M9 rfl rfl (WL_gPT rfl rfl rfl rfl rfl (by decide) (Pm9 rfl rfl) (WL_gPT rfl rfl rfl rfl rfl (by decide) (Pl9 (r:=0) rfl Tryz.runUnderlying63 rfl rfl hF) (WL_gPT rfl rfl rfl rfl rfl (by decide) (Pn9 rfl rfl rfl (run_eql _ _ _ _ _ _)) (WL_gPT rfl rfl rfl rfl rfl (by decide) (Pm9 rfl rfl) (WL_gPT rfl rfl rfl (by rw [hL]; rfl) rfl (by decide) (Pm9 rfl rfl) (WL_gPT rfl rfl rfl (by rw [hL]; rfl) rfl (by decide) (Pn9 rfl rfl rfl (run_ptrNe Tryz.underlying81 _ _ _)) (WL_gPT rfl rfl rfl rfl rfl (by decide) (Pu_pickT rfl rfl hL rfl) (L9 rfl (Pu_pickF rfl rfl rfl rfl) (G9 rfl rfl (N9 (X9 ?_))))))))))))))
 refine W_true rfl (rfl) ?_
 refine Q9 (R9 (G9 rfl rfl (N9 (X9 ?_))))
 refine W_ret (X_block_ret (X_then_ret ?_))
 refine X_join [600,601,602,603] 1 (htP (.mk g gd gf dirs files)) rfl (by decide) (fun h hs => by rw [htP_mk]; exact hs) ?_
 exact Xq9 [1] (Ps:=[_]) (res1 Tryz.results37 rfl) rfl (by decide) ⟨(.mk g gd gf dirs files),rfl,by rw [hcan],fun h => absurd (hcan ▸ h) (by simp),rfl⟩
theorem put_one1 (g gd gf : Nat) (dirs : List (List UInt8 × HT)) (files : List (List UInt8 × Value × List UInt8)) (lv v : Value) (ls : List (List UInt8)) (n d : List UInt8) (hl : 0 < ls.length) (hl2 : ls.length ≤ 1000000) (hn : ls.getD 0 [] = n) (F : HP) (hF : ∀ h,F h → rdS lv ls h) (hfil : lookA n files = none) (hdir : lookA n dirs = none) (h1 : ls.length = 1) (hcan : canPut ls (.mk g gd gf dirs files) = true) (hputs : Put ls v d (.mk g gd gf dirs files) (.mk g gd gf dirs (files ++ [(n,v,d)]))) : CallsS Tryz.prog 37 #[.pointer (some ⟨g,0,none⟩),lv,v] F [htP (.mk g gd gf dirs files)] (fun r Ps => ∃ T',T'.g = g ∧ r = .bool (canPut ls (.mk g gd gf dirs files)) ∧ (canPut ls (.mk g gd gf dirs files) = true → Put ls v d (.mk g gd gf dirs files) T') ∧ Ps = [htP T']):=by
 have hL : decide ((ls.length : Int) = 1) = true:=decide_eq_true (by omega)
 refine callsS_enter Tryz.func37 rfl Tryz.ntmps37 (by simp) (fun E => ?_)
 refine Q9 (R9 (G9 rfl rfl (N9 (X9 (Q9 ?_)))))
 refine W_openHT 1 600 rfl ?_
 refine R9 (M9 rfl rfl (L9 rfl (Pu_idxS1 (r:=0) rfl Tryz.runUnderlying63 Tryz.sizeOf9 rfl rfl rfl hF (by omega)) (L9 rfl (Py9 (r:=0) rfl Tryz.isAgg9 rfl rfl hF (ss_at (k:=0) (by omega))) ?_)))
 rw [hn]
 refine (G9 rfl rfl (N9 (X9 ?_)))
 refine Q9 (R9 (M9 rfl rfl (L9 rfl (Pu_nilCheck rfl rfl) (L9 rfl (F9 1 rfl rfl) (L9 rfl (Pb9 (r:=600) rfl Tryz.isAgg133 rfl rfl rfl) (M9 rfl rfl (L9 rfl (Pu_lookupOkQ (r:=602) keyS rfl Tryz.underlying133 Tryz.zeroValue36 rfl rfl trivial rfl) ?_)))))))
 rw [lookQ_fil,hfil]
 refine (M9 rfl rfl (L9 rfl (Pe9 rfl rfl rfl) (L9 rfl (Pe9 rfl rfl rfl) (G9 rfl rfl (G9 rfl rfl (N9 (X9 ?_)))))))
 refine Q9 (R9 (M9 rfl rfl (L9 rfl (Pu_nilCheck rfl rfl) (L9 rfl (F9 0 rfl rfl) (L9 rfl (Pb9 (r:=600) rfl Tryz.isAgg132 rfl rfl rfl) (M9 rfl rfl (L9 rfl (Pu_lookupQ (r:=601) keyS rfl Tryz.underlying132 Tryz.zeroValue81 rfl rfl trivial rfl) ?_)))))))
 rw [lookQ_dir,hdir]
 refine (G9 rfl rfl (N9 (X9 ?_)))
 refine Q9 ?_
 refine W_block ?_
 refine Q9 (R9 (M9 rfl rfl (M9 rfl rfl (WL_gPT rfl rfl rfl rfl rfl (by decide) (Pm9 rfl rfl) (WL_gPT rfl rfl rfl rfl rfl (by decide) (Pl9 (r:=0) rfl Tryz.runUnderlying63 rfl rfl hF) (WL_gPT rfl rfl rfl rfl rfl (by decide) (Pn9 rfl rfl rfl (run_eql _ _ _ _ _ _)) (WL_gPT rfl rfl rfl rfl rfl (by decide) (Pm9 rfl rfl) (WL_gPT rfl rfl rfl (by rw [hL]; rfl) rfl (by decide) (Pm9 rfl rfl) (WL_gPT rfl rfl rfl (by rw [hL]; rfl) rfl (by decide) (Pn9 rfl rfl rfl (run_nilNe Tryz.underlying81 _ _)) (WL_gPT rfl rfl rfl rfl rfl (by decide) (Pu_pickT rfl rfl hL rfl) (L9 rfl (Pu_pickF rfl rfl rfl rfl) (G9 rfl rfl (N9 (X9 ?_))))))))))))))
 refine W_false rfl (rfl) ?_
 refine Q9 (R9 (M9 rfl rfl (L9 rfl (Pl9 (r:=0) rfl Tryz.runUnderlying63 rfl rfl hF) (L9 rfl (Pn9 rfl rfl rfl (run_eql _ _ _ _ _ _)) (G9 rfl rfl (N9 (X9 ?_)))))))
 refine W_true rfl (hL) ?_
 refine Q9 (R9 (M9 rfl rfl (L9 rfl (Pu_nilCheck rfl rfl) (L9 rfl (F9 1 rfl rfl) (L9 rfl (Pb9 (r:=600) rfl Tryz.isAgg133 rfl rfl rfl) (M9 rfl rfl (M9 rfl rfl (Lc09 rfl rfl (OpT_mapPutQ (r:=602) (k:=n) (v:=v) (es:=filM files) (g:=gf) keyS rfl Tryz.underlying133 rfl rfl trivial rfl rfl ?_)))))))))
 refine (N9 (X9 ?_))
 refine Q9 (R9 (G9 rfl rfl (N9 (X9 ?_))))
 refine W_ret (X_block_ret (X_then_ret ?_))
 refine X_join [600,601,602,603] 1 (htP (.mk g gd gf dirs (files ++ [(n,v,d)]))) rfl (by decide) (fun h hs => by rw [htP_mk,filM_app]; rw [put_new (by rw [lookQ_fil,hfil]; rfl)] at hs; exact hs) ?_
 exact Xq9 [1] (Ps:=[_]) (res1 Tryz.results37 rfl) rfl (by decide) ⟨.mk g gd gf dirs (files ++ [(n,v,d)]),rfl,by rw [hcan],fun _ => hputs,rfl⟩
theorem put_deepS (g gd gf : Nat) (dirs : List (List UInt8 × HT)) (files : List (List UInt8 × Value × List UInt8)) (lv v : Value) (ls : List (List UInt8)) (n d : List UInt8) (hl : 0 < ls.length) (hl2 : ls.length ≤ 1000000) (hn : ls.getD 0 [] = n) (F : HP) (hF : ∀ h,F h → rdS lv ls h) (hfil : lookA n files = none) {t : HT} (hdir : lookA n dirs = some t) (h1 : 1 < ls.length) (tl : List (List UInt8)) (htl : ls = n :: tl) (hcan : canPut ls (.mk g gd gf dirs files) = canPut tl t) {a c : List (List UInt8 × HT)} (hspl : dirs = a ++ (n,t) :: c) (hputs : ∀ T1,Put tl v d t T1 → Put ls v d (.mk g gd gf dirs files) (.mk g gd gf (a ++ (n,T1) :: c) files)) (ih : ∀ (F2 : HP),(∀ h,F2 h → rdS (subV 1 lv 1 ls.length) tl h) → CallsS Tryz.prog 37 #[.pointer (some ⟨t.g,0,none⟩),subV 1 lv 1 ls.length,v] F2 [htP t] (fun r Ps => ∃ T',T'.g = t.g ∧ r = .bool (canPut tl t) ∧ (canPut tl t = true → Put tl v d t T') ∧ Ps = [htP T'])) : CallsS Tryz.prog 37 #[.pointer (some ⟨g,0,none⟩),lv,v] F [htP (.mk g gd gf dirs files)] (fun r Ps => ∃ T',T'.g = g ∧ r = .bool (canPut ls (.mk g gd gf dirs files)) ∧ (canPut ls (.mk g gd gf dirs files) = true → Put ls v d (.mk g gd gf dirs files) T') ∧ Ps = [htP T']):=by
 have hL : decide ((ls.length : Int) = 1) = false:=decide_eq_false (by omega)
 refine callsS_enter Tryz.func37 rfl Tryz.ntmps37 (by simp) (fun E => ?_)
 refine Q9 (R9 (G9 rfl rfl (N9 (X9 (Q9 ?_)))))
 refine W_openHT 1 600 rfl ?_
 refine R9 (M9 rfl rfl (L9 rfl (Pu_idxS1 (r:=0) rfl Tryz.runUnderlying63 Tryz.sizeOf9 rfl rfl rfl hF (by omega)) (L9 rfl (Py9 (r:=0) rfl Tryz.isAgg9 rfl rfl hF (ss_at (k:=0) (by omega))) ?_)))
 rw [hn]
 refine (G9 rfl rfl (N9 (X9 ?_)))
 refine Q9 (R9 (M9 rfl rfl (L9 rfl (Pu_nilCheck rfl rfl) (L9 rfl (F9 1 rfl rfl) (L9 rfl (Pb9 (r:=600) rfl Tryz.isAgg133 rfl rfl rfl) (M9 rfl rfl (L9 rfl (Pu_lookupOkQ (r:=602) keyS rfl Tryz.underlying133 Tryz.zeroValue36 rfl rfl trivial rfl) ?_)))))))
 rw [lookQ_fil,hfil]
 refine (M9 rfl rfl (L9 rfl (Pe9 rfl rfl rfl) (L9 rfl (Pe9 rfl rfl rfl) (G9 rfl rfl (G9 rfl rfl (N9 (X9 ?_)))))))
 refine Q9 (R9 (M9 rfl rfl (L9 rfl (Pu_nilCheck rfl rfl) (L9 rfl (F9 0 rfl rfl) (L9 rfl (Pb9 (r:=600) rfl Tryz.isAgg132 rfl rfl rfl) (M9 rfl rfl (L9 rfl (Pu_lookupQ (r:=601) keyS rfl Tryz.underlying132 Tryz.zeroValue81 rfl rfl trivial rfl) ?_)))))))
 rw [lookQ_dir,hdir]
 refine (G9 rfl rfl (N9 (X9 ?_)))
 refine Q9 ?_
 refine W_block ?_
 refine Q9 (R9 (M9 rfl rfl (M9 rfl rfl (WL_gPT rfl rfl rfl rfl rfl (by decide) (Pm9 rfl rfl) (WL_gPT rfl rfl rfl rfl rfl (by decide) (Pl9 (r:=0) rfl Tryz.runUnderlying63 rfl rfl hF) (WL_gPT rfl rfl rfl rfl rfl (by decide) (Pn9 rfl rfl rfl (run_eql _ _ _ _ _ _)) (WL_gPT rfl rfl rfl rfl rfl (by decide) (Pm9 rfl rfl) (WL_gF rfl rfl rfl (by rw [hL]; rfl) rfl (by decide) (WL_gF rfl rfl rfl (by rw [hL]; rfl) rfl (by decide) (WL_gPT rfl rfl rfl rfl rfl (by decide) (Pu_pickF rfl rfl hL rfl) (L9 rfl (Pu_pickF rfl rfl rfl rfl) (G9 rfl rfl (N9 (X9 ?_))))))))))))))
 refine W_false rfl (rfl) ?_
 refine Q9 (R9 (M9 rfl rfl (L9 rfl (Pl9 (r:=0) rfl Tryz.runUnderlying63 rfl rfl hF) (L9 rfl (Pn9 rfl rfl rfl (run_eql _ _ _ _ _ _)) (G9 rfl rfl (N9 (X9 ?_)))))))
 refine W_false rfl (hL) ?_
 refine Q9 (R9 (M9 rfl rfl (L9 rfl (Pn9 rfl rfl rfl (run_ptrNil Tryz.underlying81 _ _ _)) (G9 rfl rfl (N9 (X9 ?_))))))
 refine W_false rfl (rfl) ?_
 refine K9 (X_block (X9 ?_))
 refine Q9 ?_
 refine W_split 603 700 [htP t,starL (htsP (a ++ c))] rfl (fun h hp => kids_out (d:=(n,t)) (by rw [← hspl]; exact hp)) ?_
 refine R9 (M9 rfl rfl (M9 rfl rfl (L9 rfl (Pu_slice (r:=0) (a:=1) rfl Tryz.runUnderlying63 Tryz.sizeOf9 rfl rfl hF (.inr ⟨_,_,_,rfl,rfl,rfl⟩) (.inl ⟨rfl,rfl⟩) (by omega) (by omega)) (M9 rfl rfl (Lc9 rfl rfl (by decide) (Oc9 800 [0,600,601,602,701] [700] rfl Tryz.call37 rfl rfl rfl (by decide) (by decide) (ih _ (rs9 0 rfl (fun h hp => rdS_tail (hF h hp) htl)) ) (fun v64 Ps64 hR64 => ?_)))))))
 obtain ⟨T1,hg1,rfl,hput,rfl⟩:=hR64
 skip
 refine (G9 rfl rfl (N9 (X9 ?_)))
 refine W_ret ?_
 refine X_join [800,701] 603 (starL (htsP (a ++ (n,T1) :: c))) rfl (by decide) (fun h hs => kids_in (d:=(n,T1)) hs) ?_
 refine X_join [600,601,602,603] 1 (htP (.mk g gd gf (a ++ (n,T1) :: c) files)) rfl (by decide) (fun h hs => by rw [htP_mk,dirM_same hg1]; rw [hspl] at hs; exact hs) ?_
 exact Xe9 [1] (Ps:=[_]) (res1 Tryz.results37 rfl) rfl (by decide) ⟨.mk g gd gf (a ++ (n,T1) :: c) files,rfl,by rw [hcan],fun h => hputs T1 (hput (hcan ▸ h)),rfl⟩
theorem put_deepN (g gd gf : Nat) (dirs : List (List UInt8 × HT)) (files : List (List UInt8 × Value × List UInt8)) (lv v : Value) (ls : List (List UInt8)) (n d : List UInt8) (hl : 0 < ls.length) (hl2 : ls.length ≤ 1000000) (hn : ls.getD 0 [] = n) (F : HP) (hF : ∀ h,F h → rdS lv ls h) (hfil : lookA n files = none) (hdir : lookA n dirs = none) (h1 : 1 < ls.length) (tl : List (List UInt8)) (htl : ls = n :: tl) (hcan : canPut ls (.mk g gd gf dirs files) = true) (hput0 : ∀ g1 gd1 gf1,canPut tl (.mk g1 gd1 gf1 [] []) = true) (hputs : ∀ g1 gd1 gf1 T1,Put tl v d (.mk g1 gd1 gf1 [] []) T1 → Put ls v d (.mk g gd gf dirs files) (.mk g gd gf (dirs ++ [(n,T1)]) files)) (ih : ∀ (F2 : HP),(∀ h,F2 h → rdS (subV 1 lv 1 ls.length) tl h) → ∀ g1 gd1 gf1,CallsS Tryz.prog 37 #[.pointer (some ⟨g1,0,none⟩),subV 1 lv 1 ls.length,v] F2 [htP (.mk g1 gd1 gf1 [] [])] (fun r Ps => ∃ T',T'.g = g1 ∧ r = .bool true ∧ Put tl v d (.mk g1 gd1 gf1 [] []) T' ∧ Ps = [htP T'])) : CallsS Tryz.prog 37 #[.pointer (some ⟨g,0,none⟩),lv,v] F [htP (.mk g gd gf dirs files)] (fun r Ps => ∃ T',T'.g = g ∧ r = .bool (canPut ls (.mk g gd gf dirs files)) ∧ (canPut ls (.mk g gd gf dirs files) = true → Put ls v d (.mk g gd gf dirs files) T') ∧ Ps = [htP T']):=by
 have hL : decide ((ls.length : Int) = 1) = false:=decide_eq_false (by omega)
 refine callsS_enter Tryz.func37 rfl Tryz.ntmps37 (by simp) (fun E => ?_)
 refine Q9 (R9 (G9 rfl rfl (N9 (X9 (Q9 ?_)))))
 refine W_openHT 1 600 rfl ?_
 refine R9 (M9 rfl rfl (L9 rfl (Pu_idxS1 (r:=0) rfl Tryz.runUnderlying63 Tryz.sizeOf9 rfl rfl rfl hF (by omega)) (L9 rfl (Py9 (r:=0) rfl Tryz.isAgg9 rfl rfl hF (ss_at (k:=0) (by omega))) ?_)))
 rw [hn]
 refine (G9 rfl rfl (N9 (X9 ?_)))
 refine Q9 (R9 (M9 rfl rfl (L9 rfl (Pu_nilCheck rfl rfl) (L9 rfl (F9 1 rfl rfl) (L9 rfl (Pb9 (r:=600) rfl Tryz.isAgg133 rfl rfl rfl) (M9 rfl rfl (L9 rfl (Pu_lookupOkQ (r:=602) keyS rfl Tryz.underlying133 Tryz.zeroValue36 rfl rfl trivial rfl) ?_)))))))
 rw [lookQ_fil,hfil]
 refine (M9 rfl rfl (L9 rfl (Pe9 rfl rfl rfl) (L9 rfl (Pe9 rfl rfl rfl) (G9 rfl rfl (G9 rfl rfl (N9 (X9 ?_)))))))
 refine Q9 (R9 (M9 rfl rfl (L9 rfl (Pu_nilCheck rfl rfl) (L9 rfl (F9 0 rfl rfl) (L9 rfl (Pb9 (r:=600) rfl Tryz.isAgg132 rfl rfl rfl) (M9 rfl rfl (L9 rfl (Pu_lookupQ (r:=601) keyS rfl Tryz.underlying132 Tryz.zeroValue81 rfl rfl trivial rfl) ?_)))))))
 rw [lookQ_dir,hdir]
 refine (G9 rfl rfl (N9 (X9 ?_)))
 refine Q9 ?_
 refine W_block ?_
 refine Q9 (R9 (M9 rfl rfl (M9 rfl rfl (WL_gPT rfl rfl rfl rfl rfl (by decide) (Pm9 rfl rfl) (WL_gPT rfl rfl rfl rfl rfl (by decide) (Pl9 (r:=0) rfl Tryz.runUnderlying63 rfl rfl hF) (WL_gPT rfl rfl rfl rfl rfl (by decide) (Pn9 rfl rfl rfl (run_eql _ _ _ _ _ _)) (WL_gPT rfl rfl rfl rfl rfl (by decide) (Pm9 rfl rfl) (WL_gF rfl rfl rfl (by rw [hL]; rfl) rfl (by decide) (WL_gF rfl rfl rfl (by rw [hL]; rfl) rfl (by decide) (WL_gPT rfl rfl rfl rfl rfl (by decide) (Pu_pickF rfl rfl hL rfl) (L9 rfl (Pu_pickF rfl rfl rfl rfl) (G9 rfl rfl (N9 (X9 ?_))))))))))))))
 refine W_false rfl (rfl) ?_
 refine Q9 (R9 (M9 rfl rfl (L9 rfl (Pl9 (r:=0) rfl Tryz.runUnderlying63 rfl rfl hF) (L9 rfl (Pn9 rfl rfl rfl (run_eql _ _ _ _ _ _)) (G9 rfl rfl (N9 (X9 ?_)))))))
 refine W_false rfl (hL) ?_
 refine Q9 (R9 (M9 rfl rfl (L9 rfl (Pn9 rfl rfl rfl (run_nilEq Tryz.underlying81 _ _)) (G9 rfl rfl (N9 (X9 ?_))))))
 refine W_true rfl (rfl) ?_
 refine Q9 (R9 (Lc9 rfl rfl (by decide) (Oc9 700 [0,600,601,602,603] [] rfl Tryz.call35 rfl rfl rfl (by decide) (by decide) (empty_spec _) (fun v53 Ps53 hR53 => ?_))))
 obtain ⟨g1,gd1,gf1,rfl,rfl⟩:=hR53
 skip
 refine (G9 rfl rfl (N9 (X9 ?_)))
 refine R9 (M9 rfl rfl (L9 rfl (Pu_nilCheck rfl rfl) (L9 rfl (F9 0 rfl rfl) (L9 rfl (Pb9 (r:=600) rfl Tryz.isAgg132 rfl rfl rfl) (M9 rfl rfl (M9 rfl rfl (Lc09 rfl rfl (OpT_mapPutQ (r:=601) (k:=n) (v:=.pointer (some ⟨g1,0,none⟩)) (es:=dirM dirs) (g:=gd) keyS rfl Tryz.underlying132 rfl rfl trivial rfl rfl ?_))))))))
 refine (N9 (X_block (X9 ?_)))
 refine Q9 (R9 (M9 rfl rfl (M9 rfl rfl (L9 rfl (Pu_slice (r:=0) (a:=1) rfl Tryz.runUnderlying63 Tryz.sizeOf9 rfl rfl hF (.inr ⟨_,_,_,rfl,rfl,rfl⟩) (.inl ⟨rfl,rfl⟩) (by omega) (by omega)) (M9 rfl rfl (Lc9 rfl rfl (by decide) (Oc9 800 [0,600,601,602,603] [700] rfl Tryz.call37 rfl rfl rfl (by decide) (by decide) (ih _ (rs9 0 rfl (fun h hp => rdS_tail (hF h hp) htl)) g1 gd1 gf1) (fun v64 Ps64 hR64 => ?_))))))))
 obtain ⟨T1,hg1,rfl,hput,rfl⟩:=hR64
 skip
 refine (G9 rfl rfl (N9 (X9 ?_)))
 refine W_ret ?_
 refine X_join [603,800] 603 (starL (htsP (dirs ++ [(n,T1)]))) rfl (by decide) (fun h hs => kids_new (n:=n) hs) ?_
 refine X_join [600,601,602,603] 1 (htP (.mk g gd gf (dirs ++ [(n,T1)]) files)) rfl (by decide) (fun h hs => by rw [htP_mk,dirM_new hg1]; rw [put_new (by rw [lookQ_dir,hdir]; rfl)] at hs; exact hs) ?_
 exact Xe9 [1] (Ps:=[_]) (res1 Tryz.results37 rfl) rfl (by decide) ⟨.mk g gd gf (dirs ++ [(n,T1)]) files,rfl,by rw [hcan],fun _ => hputs _ _ _ T1 hput,rfl⟩
end Go.Proofs.YthkdkmaacjpneaaGreatDoor
