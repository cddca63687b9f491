/- Texts of this proof, one behind the other: LmsF, LmsG, LmsU, LmsH, Froz, SbR, SbB, SbC, SbD, OtsR, OtsA, OtsB, OtsC, OtsD, LmsP. -/
import Derived.Test.YtinamipkpdlphaaK3
import Derived.Test.YtinamipkpdlphaaK2
import Derived.Deep.AppendSrc
import Derived.Lib.SlBytesConst
set_option linter.unusedVariables false
set_option linter.unusedSimpArgs false
set_option linter.unusedSectionVars false
namespace Go.Proofs.Ytinamipkpdlphaa
open Go.RowKit
set_option maxRecDepth 8000

theorem tree6_spec (nm:List UInt8) (hn:nm.length=16) (seed:List UInt8) (hs:seed.length=32) (F:HP):CallsS Try.prog 36 #[idV nm,idV seed,.int .i64 1] F [] (fun r Ps=>Ps=[rowI 29 r (trB nm seed 1)]):=by
 refine callsS_enter Try.func36 rfl Try.ntmps36 (by simp) (fun E=>?_)
 refine Q9 (R9 (Lc9 rfl rfl (by decide) (OpT_box (r:=101) rfl rfl rfl (fun g101=>(Lc9 rfl rfl (by decide) (OpT_box (r:=102) rfl rfl rfl (fun g102=>(G9 rfl rfl (N9 (X9 (Q9 (R9 (M9 rfl rfl (L9 rfl (Pu_conv rfl rfl (conv_u64 1 Try.runUnderlying3 Try.runUnderlying71 (by omega))) (L9 rfl (Pn9 rfl rfl rfl (run_shl 1 1 _ _ _ (by decide) (by decide))) ?_)))))))))))))))
 rw [show ((1 * 2 ^ 1:Nat):Int)=2 from rfl]
 refine (G9 rfl rfl (N9 (X9 ?_)))
 refine Q9 (R9 (M9 rfl rfl (L9 rfl (Pn9 rfl rfl rfl (run_mul _ _ _ _ _ (by omega))) (Lc9 rfl rfl (by decide) (OpT_make (r:=103) (m:=4) rfl Try.underlying80 TI.hi29 TI.hz29 TI.hs29 rfl rfl (by rw [TI.hby29]; omega) (by unfold maxLen; omega) (made_ids _) (fun v17=>?_))))))
 refine (G9 rfl rfl (N9 (X9 ?_)))
 refine Q9 (Q9 (R9 (G9 rfl rfl (N9 (X9 ?_)))))
 refine W_block ?_
 refine W_loop (α:=Nat) (fun x=>[(3,.pointer (some ⟨g101,0,none⟩)),(4,.pointer (some ⟨g102,0,none⟩)),(7,.int .i64 2),(8,v17),(9,.int .i64 (x:Int))]) (fun x=>[(0,F),(101,blk g101 52 (bs nm)),(102,blk g102 29 (bs seed)),(103,rowI 29 v17 (trA nm seed x))]) (fun x=>x≤2) (fun x=>2 - x) (0) (by omega) ⟨rfl,rfl,rfl,rfl,rfl,trivial⟩ ⟨rfl,rfl,rfl,look_eq rfl (by rw [trA_zero]; exact rowI_of _ (by simp) rfl),trivial⟩ (fun x hx=>?_)
 have hids:=trA_ids nm seed x
 have hl4:(trA nm seed x).length=4:=rfl
 unfold rowI
 refine Q9 (Q9 (R9 (M9 rfl rfl (M9 rfl rfl (L9 rfl (Pn9 rfl rfl rfl (run_lss _ _ _ _ _ _)) (N9 (X9 ?_)))))))
 refine C9 rfl (fun hc20=>?_) (fun hc20=>?_)
 ·
  have hlt:x < 2:=by have:=of_decide_eq_true hc20; omega
  refine K9 (X9 ?_)
  refine Q9 ?_
  refine W_block ?_
  refine Q9 (R9 (L9 rfl (Px9 (r:=101) rfl Try.isAgg52 Try.sizeOf52 rfl rfl ((bs_length _).trans hn) (load_all ((bs_length _).trans hn))) (M9 rfl rfl (L9 rfl (Px9 (r:=102) rfl Try.isAgg29 Try.sizeOf29 rfl rfl ((bs_length _).trans hs) (load_all ((bs_length _).trans hs))) (Lc9 rfl rfl (by decide) (Oc9 200 [0,101,102,103] [] rfl Try.call54 rfl rfl rfl (by decide) (by decide) (public5_spec nm hn (x:Int) seed hs _) (fun v26 Ps26 hR26=>?_)))))))
  obtain ⟨rfl,rfl⟩:=hR26
  refine (Lc9 rfl rfl (by decide) (OpT_alloc (r:=201) (cs:=(bs zeroId)) rfl (zero_run (by kernel_rfl:(Try.prog.info? 29).bind (·.zero)=some (.agg (bs zeroId).toArray))) rfl (fun g201=>(Lc09 rfl rfl (OpT_storeAll (r:=201) rfl Try.sizeOf29 rfl rfl rfl rfl ((bs_length _).trans (sha_length _)) (bs_one _) ?_)))))
  refine (N9 (X9 ?_))
  refine W_draw (N:=12) (by kernel_rfl) rfl [(0,_),(101,_),(102,_),(201,_)] ⟨rfl,rfl,rfl,rfl,trivial⟩ ?_
  refine (T9 0 rfl rfl (Pm9 rfl rfl) (T9 1 rfl rfl (Pm9 rfl rfl) (T9 2 rfl rfl (Pm9 rfl rfl) (T9 3 rfl rfl (Pn9 rfl rfl rfl (run_add _ _ _ _ _ (by omega))) ?_))))
  rw [show (2:Int) + (x:Int)=((2 + x:Nat):Int) by omega]
  refine (T9 4 rfl rfl (Px9 (r:=101) rfl Try.isAgg52 Try.sizeOf52 rfl rfl ((bs_length _).trans hn) (load_all ((bs_length _).trans hn))) (T9 5 rfl rfl (Pm9 rfl rfl) (T9 6 rfl rfl (Pm9 rfl rfl) (T9 7 rfl rfl (Pn9 rfl rfl rfl (run_add _ _ _ _ _ (by omega))) ?_))))
  try rw [show (2:Int) + (x:Int)=((2 + x:Nat):Int) by omega]
  refine (T9 8 rfl rfl (Pu_sliceArr rfl Try.runUnderlying29 Try.sizeOf5 rfl) (Y9 [9] ?_))
  refine Z9 rfl rfl (Oc9 300 [0,101,102,103,201] [] rfl Try.call53 rfl rfl rfl (by decide) (by decide) (node6_spec nm hn ((2 + x:Nat):Int) 130 _ (pubO nm (x:Int) seed) (by rw [show (pubO nm (x:Int) seed).length=32 from sha_length _]; omega) _ (fun h hp=>rdP_cast (rs9 4 rfl (fun _ h=>blk_all (m:=32) h (sha_length _)) h hp) rfl (sha_length _).symm)) (fun v36 Ps36 hR36=>?_)) ?_
  ·
   obtain ⟨rfl,rfl⟩:=hR36
   refine ⟨⟨rfl,rfl,rfl,rfl,trivial⟩,?_⟩
   refine (Y9 [10] ?_)
   refine Z9 rfl rfl (Or9 (Pi9 (r:=103) rfl Try.runUnderlying80 Try.sizeOf29 rfl rfl rfl (fun _ h=>rp9 h) (by rw [hl4]; omega)) ⟨⟨rfl,rfl,rfl,rfl,trivial⟩,?_⟩) ?_
   ·
    refine (Y9 [11] ?_)
    refine Ac09 rfl rfl rfl (OpT_storeS (r:=103) rfl (sz_id (leafT_length nm seed x)) rfl rfl rfl (show 0 < (bs (leafT nm seed x)).length by rw [bs_length,leafT_length]; decide) (by rw [idsC_length hids,hl4]; show _ + (bs (leafT nm seed x)).length≤_; rw [bs_length,leafT_length]; have:(((2 + x:Nat):Int)).toNat=2 + x:=rfl; omega) (bs_one _) (show over (idsC (trA nm seed x)) ((2 + x) * 32) (bs (leafT nm seed x))=_ from idsC_set hids (by rw [hl4]; omega) (leafT_length _ _ _)) ?_) ?_
    ·
     refine ⟨⟨rfl,rfl,rfl,rfl,trivial⟩,?_⟩
     refine (Ad9 (by kernel_rfl) (X_block (X9 ?_)))
     refine R9 (M9 rfl rfl (L9 rfl (Pn9 rfl rfl rfl (run_add _ _ _ _ _ (by omega))) (G9 rfl rfl (N9 ?_))))
     exact Xr9 (x + 1) (by omega) (by omega) ⟨rfl,rfl,rfl,rfl,rfl,trivial⟩ ⟨rfl,rfl,rfl,look_eq rfl (by rw [← trA_set nm seed hlt]; exact rowI_of _ (by rw [List.length_set]) rfl),trivial⟩
    exact An9
   exact An9
  exact An9
 ·
  obtain rfl:x=2:=by have:=of_decide_eq_false hc20; omega
  refine W_exit (X_then_exit (X_then_exit (X_block_exit (X9 ?_))))
  refine Q9 (Q9 (R9 (M9 rfl rfl (L9 rfl (Pn9 rfl rfl rfl (run_sub _ _ _ _ _ (by omega))) (G9 rfl rfl (N9 (X9 ?_)))))))
  refine W_block ?_
  refine W_loop (α:=Nat) (fun x=>[(3,.pointer (some ⟨g101,0,none⟩)),(4,.pointer (some ⟨g102,0,none⟩)),(7,.int .i64 2),(8,v17),(11,.int .i64 (1 - (x:Int)))]) (fun x=>[(0,F),(101,blk g101 52 (bs nm)),(102,blk g102 29 (bs seed)),(103,rowI 29 v17 (trB nm seed x))]) (fun x=>x≤1) (fun x=>1 - x) (0) (by omega) ⟨rfl,rfl,rfl,rfl,rfl,trivial⟩ ⟨rfl,rfl,rfl,look_eq rfl (by rw [trA_full]; rfl),trivial⟩ (fun x hx=>?_)
  have hids:=trB_ids nm seed x
  have hl4:(trB nm seed x).length=4:=rfl
  unfold rowI
  refine Q9 (Q9 (R9 (M9 rfl rfl (L9 rfl (Pn9 rfl rfl rfl (run_gtr _ _ _ _ _ _)) (N9 (X9 ?_))))))
  refine C9 rfl (fun hc41=>?_) (fun hc41=>?_)
  ·
   obtain rfl:x=0:=by have:=of_decide_eq_true hc41; omega
   have hv1:(1:Int) - ((0:Nat):Int)=1:=rfl
   rw [hv1]
   refine K9 (X9 ?_)
   refine Q9 ?_
   refine W_block ?_
   refine W_draw (N:=21) (by kernel_rfl) rfl [(0,_),(101,_),(102,_)] ⟨rfl,rfl,rfl,trivial⟩ ?_
   refine (T9 0 rfl rfl (Pm9 rfl rfl) (T9 1 rfl rfl (Pm9 rfl rfl) (T9 2 rfl rfl (Px9 (r:=101) rfl Try.isAgg52 Try.sizeOf52 rfl rfl ((bs_length _).trans hn) (load_all ((bs_length _).trans hn))) (T9 3 rfl rfl (Pm9 rfl rfl) (T9 5 rfl rfl (Pm9 rfl rfl) (T9 6 rfl rfl (Pm9 rfl rfl) (T9 7 rfl rfl (Pn9 rfl rfl rfl (run_mul _ _ _ _ _ (by omega))) (T9 11 rfl rfl (Pm9 rfl rfl) (T9 12 rfl rfl (Pm9 rfl rfl) (T9 13 rfl rfl (Pn9 rfl rfl rfl (run_mul _ _ _ _ _ (by omega))) (T9 14 rfl rfl (Pn9 rfl rfl rfl (run_add _ _ _ _ _ (by omega))) (Y9 [4,8,15] ?_))))))))))))
   refine Z9 rfl rfl (OpT_buildOnes (r:=104) (bs []) rfl rfl Try.runUnderlying30 Try.sizeOf5 Try.zeroValue5 rfl rfl (by decide) rfl (bs_cells _) (fun v48=>⟨⟨rfl,rfl,rfl,trivial⟩,?_⟩)) ?_
   ·
    refine (Y9 [8,15] ?_)
    refine Z9 rfl rfl (Or9 (Pi9 (r:=103) rfl Try.runUnderlying80 Try.sizeOf29 rfl rfl rfl (fun _ h=>rp9 h) (by rw [hl4]; omega)) ⟨⟨rfl,rfl,rfl,trivial⟩,?_⟩) ?_
    ·
     refine (T9 9 rfl rfl (Pu_sliceArrE rfl Try.runUnderlying29 Try.sizeOf5 rfl) (Y9 [10,15] ?_))
     refine Z9 rfl rfl (Oa9 (r:=104) (r2:=103) rfl Try.underlying30 TI.hi5 TI.hz5 TI.hs5 TI.hby5 TI.hzs5 (by decide) rfl rfl rfl rfl (fun h hp=>rdP_cast (rd_id (l:=trB nm seed 0) (k:=2) (rp9 hp) hids (by rw [hl4]; omega)) rfl (leafT_length nm seed 0)) (bs_one _) (by unfold maxLen; omega) (by omega) (fun v54=>?_)) ?_
     ·
      refine ⟨⟨rfl,rfl,rfl,trivial⟩,?_⟩
      refine AH_turn (P':=rowB 5 v54 (leafT nm seed 0)) 104 rfl (fun h hp=>rowB_mk hp (by simp [leafT_length]) (by simp [bs,trB])) ?_
      refine (Y9 [15] ?_)
      refine Z9 rfl rfl (Or9 (Pi9 (r:=103) rfl Try.runUnderlying80 Try.sizeOf29 rfl rfl rfl (fun _ h=>rp9 h) (by rw [hl4]; omega)) ⟨⟨rfl,rfl,rfl,trivial⟩,?_⟩) ?_
      ·
       refine (T9 16 rfl rfl (Pu_sliceArrE rfl Try.runUnderlying29 Try.sizeOf5 rfl) (Y9 [17] ?_))
       refine Z9 rfl rfl (Oa9 (r:=104) (r2:=103) rfl Try.underlying30 TI.hi5 TI.hz5 TI.hs5 TI.hby5 TI.hzs5 (by decide) rfl rfl rfl rfl (fun h hp=>rdP_cast (rd_id (l:=trB nm seed 0) (k:=3) (rp9 hp) hids (by rw [hl4]; omega)) rfl (leafT_length nm seed 1)) (bs_one _) (by unfold maxLen; rw [leafT_length]; omega) (by rw [leafT_length]; omega) (fun v61=>?_)) ?_
       ·
        refine ⟨⟨rfl,rfl,rfl,trivial⟩,?_⟩
        refine AH_turn (P':=rowB 5 v61 (leafT nm seed 0++leafT nm seed 1)) 104 rfl (fun h hp=>rowB_mk hp (by simp [leafT_length]) (by rw [bs_append]; rfl)) ?_
        refine (Y9 [18] ?_)
        refine Z9 rfl rfl (Oc9 200 [0,101,102,103,104] [] rfl Try.call53 rfl rfl rfl (by decide) (by decide) (node6_spec nm hn 1 131 v61 (leafT nm seed 0++leafT nm seed 1) (by rw [List.length_append,leafT_length,leafT_length]; omega) _ (rs9 4 rfl rowB_rd)) (fun v62 Ps62 hR62=>?_)) ?_
        ·
         obtain ⟨rfl,rfl⟩:=hR62
         refine ⟨⟨rfl,rfl,rfl,trivial⟩,?_⟩
         refine (Y9 [19] ?_)
         refine Z9 rfl rfl (Or9 (Pi9 (r:=103) rfl Try.runUnderlying80 Try.sizeOf29 rfl rfl rfl (fun _ h=>rp9 h) (by rw [hl4]; omega)) ⟨⟨rfl,rfl,rfl,trivial⟩,?_⟩) ?_
         ·
          refine (Y9 [20] ?_)
          refine Ac09 rfl rfl rfl (OpT_storeS (r:=103) rfl (sz_id (topT_length nm seed)) rfl rfl rfl (show 0 < (bs (topT nm seed)).length by rw [bs_length,topT_length]; decide) (by rw [idsC_length hids,hl4]; show _ + (bs (topT nm seed)).length≤_; rw [bs_length,topT_length]; decide) (bs_one _) (show over (idsC (trB nm seed 0)) (1 * 32) (bs (topT nm seed))=_ from idsC_set hids (by rw [hl4]; omega) (topT_length _ _)) ?_) ?_
          ·
           refine ⟨⟨rfl,rfl,rfl,trivial⟩,?_⟩
           refine (Ad9 (by kernel_rfl) (X_block (X9 ?_)))
           refine R9 (M9 rfl rfl (L9 rfl (Pn9 rfl rfl rfl (run_sub _ _ _ _ _ (by omega))) (G9 rfl rfl (N9 ?_))))
           exact Xr9 1 (by omega) (by omega) ⟨rfl,rfl,rfl,rfl,lookV_eq rfl (int_eq (by omega)),trivial⟩ ⟨rfl,rfl,rfl,look_eq rfl (by rw [← trB_set nm seed]; exact rowI_of _ (by rw [List.length_set]) rfl),trivial⟩
          exact An9
         exact An9
        exact An9
       exact An9
      exact An9
     refine Z9 rfl rfl (Or9 (Pi9 (r:=103) rfl Try.runUnderlying80 Try.sizeOf29 rfl rfl rfl (fun _ h=>rp9 h) (by rw [hl4]; omega)) ⟨⟨rfl,rfl,rfl,trivial⟩,?_⟩) ?_
     ·
      refine (T9 16 rfl rfl (Pu_sliceArrE rfl Try.runUnderlying29 Try.sizeOf5 rfl) (Y9 [10] ?_))
      refine Z9 rfl rfl (Oa9 (r:=104) (r2:=103) rfl Try.underlying30 TI.hi5 TI.hz5 TI.hs5 TI.hby5 TI.hzs5 (by decide) rfl rfl rfl rfl (fun h hp=>rdP_cast (rd_id (l:=trB nm seed 0) (k:=2) (rp9 hp) hids (by rw [hl4]; omega)) rfl (leafT_length nm seed 0)) (bs_one _) (by unfold maxLen; omega) (by omega) (fun v54=>?_)) ?_
      ·
       refine ⟨⟨rfl,rfl,rfl,trivial⟩,?_⟩
       refine AH_turn (P':=rowB 5 v54 (leafT nm seed 0)) 104 rfl (fun h hp=>rowB_mk hp (by simp [leafT_length]) (by simp [bs,trB])) ?_
       refine (Y9 [17] ?_)
       refine Z9 rfl rfl (Oa9 (r:=104) (r2:=103) rfl Try.underlying30 TI.hi5 TI.hz5 TI.hs5 TI.hby5 TI.hzs5 (by decide) rfl rfl rfl rfl (fun h hp=>rdP_cast (rd_id (l:=trB nm seed 0) (k:=3) (rp9 hp) hids (by rw [hl4]; omega)) rfl (leafT_length nm seed 1)) (bs_one _) (by unfold maxLen; rw [leafT_length]; omega) (by rw [leafT_length]; omega) (fun v61=>?_)) ?_
       ·
        refine ⟨⟨rfl,rfl,rfl,trivial⟩,?_⟩
        refine AH_turn (P':=rowB 5 v61 (leafT nm seed 0++leafT nm seed 1)) 104 rfl (fun h hp=>rowB_mk hp (by simp [leafT_length]) (by rw [bs_append]; rfl)) ?_
        refine (Y9 [18] ?_)
        refine Z9 rfl rfl (Oc9 200 [0,101,102,103,104] [] rfl Try.call53 rfl rfl rfl (by decide) (by decide) (node6_spec nm hn 1 131 v61 (leafT nm seed 0++leafT nm seed 1) (by rw [List.length_append,leafT_length,leafT_length]; omega) _ (rs9 4 rfl rowB_rd)) (fun v62 Ps62 hR62=>?_)) ?_
        ·
         obtain ⟨rfl,rfl⟩:=hR62
         refine ⟨⟨rfl,rfl,rfl,trivial⟩,?_⟩
         refine (Y9 [19] ?_)
         refine Z9 rfl rfl (Or9 (Pi9 (r:=103) rfl Try.runUnderlying80 Try.sizeOf29 rfl rfl rfl (fun _ h=>rp9 h) (by rw [hl4]; omega)) ⟨⟨rfl,rfl,rfl,trivial⟩,?_⟩) ?_
         ·
          refine (Y9 [20] ?_)
          refine Ac09 rfl rfl rfl (OpT_storeS (r:=103) rfl (sz_id (topT_length nm seed)) rfl rfl rfl (show 0 < (bs (topT nm seed)).length by rw [bs_length,topT_length]; decide) (by rw [idsC_length hids,hl4]; show _ + (bs (topT nm seed)).length≤_; rw [bs_length,topT_length]; decide) (bs_one _) (show over (idsC (trB nm seed 0)) (1 * 32) (bs (topT nm seed))=_ from idsC_set hids (by rw [hl4]; omega) (topT_length _ _)) ?_) ?_
          ·
           refine ⟨⟨rfl,rfl,rfl,trivial⟩,?_⟩
           refine (Ad9 (by kernel_rfl) (X_block (X9 ?_)))
           refine R9 (M9 rfl rfl (L9 rfl (Pn9 rfl rfl rfl (run_sub _ _ _ _ _ (by omega))) (G9 rfl rfl (N9 ?_))))
           exact Xr9 1 (by omega) (by omega) ⟨rfl,rfl,rfl,rfl,lookV_eq rfl (int_eq (by omega)),trivial⟩ ⟨rfl,rfl,rfl,look_eq rfl (by rw [← trB_set nm seed]; exact rowI_of _ (by rw [List.length_set]) rfl),trivial⟩
          exact An9
         exact An9
        exact An9
       exact An9
      exact An9
     exact An9
    refine Z9 rfl rfl (Or9 (Pi9 (r:=103) rfl Try.runUnderlying80 Try.sizeOf29 rfl rfl rfl (fun _ h=>rp9 h) (by rw [hl4]; omega)) ⟨⟨rfl,rfl,rfl,trivial⟩,?_⟩) ?_
    ·
     refine (T9 16 rfl rfl (Pu_sliceArrE rfl Try.runUnderlying29 Try.sizeOf5 rfl) (Y9 [8] ?_))
     refine Z9 rfl rfl (Or9 (Pi9 (r:=103) rfl Try.runUnderlying80 Try.sizeOf29 rfl rfl rfl (fun _ h=>rp9 h) (by rw [hl4]; omega)) ⟨⟨rfl,rfl,rfl,trivial⟩,?_⟩) ?_
     ·
      refine (T9 9 rfl rfl (Pu_sliceArrE rfl Try.runUnderlying29 Try.sizeOf5 rfl) (Y9 [10] ?_))
      refine Z9 rfl rfl (Oa9 (r:=104) (r2:=103) rfl Try.underlying30 TI.hi5 TI.hz5 TI.hs5 TI.hby5 TI.hzs5 (by decide) rfl rfl rfl rfl (fun h hp=>rdP_cast (rd_id (l:=trB nm seed 0) (k:=2) (rp9 hp) hids (by rw [hl4]; omega)) rfl (leafT_length nm seed 0)) (bs_one _) (by unfold maxLen; omega) (by omega) (fun v54=>?_)) ?_
      ·
       refine ⟨⟨rfl,rfl,rfl,trivial⟩,?_⟩
       refine AH_turn (P':=rowB 5 v54 (leafT nm seed 0)) 104 rfl (fun h hp=>rowB_mk hp (by simp [leafT_length]) (by simp [bs,trB])) ?_
       refine (Y9 [17] ?_)
       refine Z9 rfl rfl (Oa9 (r:=104) (r2:=103) rfl Try.underlying30 TI.hi5 TI.hz5 TI.hs5 TI.hby5 TI.hzs5 (by decide) rfl rfl rfl rfl (fun h hp=>rdP_cast (rd_id (l:=trB nm seed 0) (k:=3) (rp9 hp) hids (by rw [hl4]; omega)) rfl (leafT_length nm seed 1)) (bs_one _) (by unfold maxLen; rw [leafT_length]; omega) (by rw [leafT_length]; omega) (fun v61=>?_)) ?_
       ·
        refine ⟨⟨rfl,rfl,rfl,trivial⟩,?_⟩
        refine AH_turn (P':=rowB 5 v61 (leafT nm seed 0++leafT nm seed 1)) 104 rfl (fun h hp=>rowB_mk hp (by simp [leafT_length]) (by rw [bs_append]; rfl)) ?_
        refine (Y9 [18] ?_)
        refine Z9 rfl rfl (Oc9 200 [0,101,102,103,104] [] rfl Try.call53 rfl rfl rfl (by decide) (by decide) (node6_spec nm hn 1 131 v61 (leafT nm seed 0++leafT nm seed 1) (by rw [List.length_append,leafT_length,leafT_length]; omega) _ (rs9 4 rfl rowB_rd)) (fun v62 Ps62 hR62=>?_)) ?_
        ·
         obtain ⟨rfl,rfl⟩:=hR62
         refine ⟨⟨rfl,rfl,rfl,trivial⟩,?_⟩
         refine (Y9 [19] ?_)
         refine Z9 rfl rfl (Or9 (Pi9 (r:=103) rfl Try.runUnderlying80 Try.sizeOf29 rfl rfl rfl (fun _ h=>rp9 h) (by rw [hl4]; omega)) ⟨⟨rfl,rfl,rfl,trivial⟩,?_⟩) ?_
         ·
          refine (Y9 [20] ?_)
          refine Ac09 rfl rfl rfl (OpT_storeS (r:=103) rfl (sz_id (topT_length nm seed)) rfl rfl rfl (show 0 < (bs (topT nm seed)).length by rw [bs_length,topT_length]; decide) (by rw [idsC_length hids,hl4]; show _ + (bs (topT nm seed)).length≤_; rw [bs_length,topT_length]; decide) (bs_one _) (show over (idsC (trB nm seed 0)) (1 * 32) (bs (topT nm seed))=_ from idsC_set hids (by rw [hl4]; omega) (topT_length _ _)) ?_) ?_
          ·
           refine ⟨⟨rfl,rfl,rfl,trivial⟩,?_⟩
           refine (Ad9 (by kernel_rfl) (X_block (X9 ?_)))
           refine R9 (M9 rfl rfl (L9 rfl (Pn9 rfl rfl rfl (run_sub _ _ _ _ _ (by omega))) (G9 rfl rfl (N9 ?_))))
           exact Xr9 1 (by omega) (by omega) ⟨rfl,rfl,rfl,rfl,lookV_eq rfl (int_eq (by omega)),trivial⟩ ⟨rfl,rfl,rfl,look_eq rfl (by rw [← trB_set nm seed]; exact rowI_of _ (by rw [List.length_set]) rfl),trivial⟩
          exact An9
         exact An9
        exact An9
       exact An9
      exact An9
     exact An9
    exact An9
   refine Z9 rfl rfl (Or9 (Pi9 (r:=103) rfl Try.runUnderlying80 Try.sizeOf29 rfl rfl rfl (fun _ h=>rp9 h) (by rw [hl4]; omega)) ⟨⟨rfl,rfl,rfl,trivial⟩,?_⟩) ?_
   ·
    refine (T9 9 rfl rfl (Pu_sliceArrE rfl Try.runUnderlying29 Try.sizeOf5 rfl) (Y9 [4,15] ?_))
    refine Z9 rfl rfl (OpT_buildOnes (r:=104) (bs []) rfl rfl Try.runUnderlying30 Try.sizeOf5 Try.zeroValue5 rfl rfl (by decide) rfl (bs_cells _) (fun v48=>⟨⟨rfl,rfl,rfl,trivial⟩,?_⟩)) ?_
    ·
     refine (Y9 [10,15] ?_)
     refine Z9 rfl rfl (Oa9 (r:=104) (r2:=103) rfl Try.underlying30 TI.hi5 TI.hz5 TI.hs5 TI.hby5 TI.hzs5 (by decide) rfl rfl rfl rfl (fun h hp=>rdP_cast (rd_id (l:=trB nm seed 0) (k:=2) (rp9 hp) hids (by rw [hl4]; omega)) rfl (leafT_length nm seed 0)) (bs_one _) (by unfold maxLen; omega) (by omega) (fun v54=>?_)) ?_
     ·
      refine ⟨⟨rfl,rfl,rfl,trivial⟩,?_⟩
      refine AH_turn (P':=rowB 5 v54 (leafT nm seed 0)) 104 rfl (fun h hp=>rowB_mk hp (by simp [leafT_length]) (by simp [bs,trB])) ?_
      refine (Y9 [15] ?_)
      refine Z9 rfl rfl (Or9 (Pi9 (r:=103) rfl Try.runUnderlying80 Try.sizeOf29 rfl rfl rfl (fun _ h=>rp9 h) (by rw [hl4]; omega)) ⟨⟨rfl,rfl,rfl,trivial⟩,?_⟩) ?_
      ·
       refine (T9 16 rfl rfl (Pu_sliceArrE rfl Try.runUnderlying29 Try.sizeOf5 rfl) (Y9 [17] ?_))
       refine Z9 rfl rfl (Oa9 (r:=104) (r2:=103) rfl Try.underlying30 TI.hi5 TI.hz5 TI.hs5 TI.hby5 TI.hzs5 (by decide) rfl rfl rfl rfl (fun h hp=>rdP_cast (rd_id (l:=trB nm seed 0) (k:=3) (rp9 hp) hids (by rw [hl4]; omega)) rfl (leafT_length nm seed 1)) (bs_one _) (by unfold maxLen; rw [leafT_length]; omega) (by rw [leafT_length]; omega) (fun v61=>?_)) ?_
       ·
        refine ⟨⟨rfl,rfl,rfl,trivial⟩,?_⟩
        refine AH_turn (P':=rowB 5 v61 (leafT nm seed 0++leafT nm seed 1)) 104 rfl (fun h hp=>rowB_mk hp (by simp [leafT_length]) (by rw [bs_append]; rfl)) ?_
        refine (Y9 [18] ?_)
        refine Z9 rfl rfl (Oc9 200 [0,101,102,103,104] [] rfl Try.call53 rfl rfl rfl (by decide) (by decide) (node6_spec nm hn 1 131 v61 (leafT nm seed 0++leafT nm seed 1) (by rw [List.length_append,leafT_length,leafT_length]; omega) _ (rs9 4 rfl rowB_rd)) (fun v62 Ps62 hR62=>?_)) ?_
        ·
         obtain ⟨rfl,rfl⟩:=hR62
         refine ⟨⟨rfl,rfl,rfl,trivial⟩,?_⟩
         refine (Y9 [19] ?_)
         refine Z9 rfl rfl (Or9 (Pi9 (r:=103) rfl Try.runUnderlying80 Try.sizeOf29 rfl rfl rfl (fun _ h=>rp9 h) (by rw [hl4]; omega)) ⟨⟨rfl,rfl,rfl,trivial⟩,?_⟩) ?_
         ·
          refine (Y9 [20] ?_)
          refine Ac09 rfl rfl rfl (OpT_storeS (r:=103) rfl (sz_id (topT_length nm seed)) rfl rfl rfl (show 0 < (bs (topT nm seed)).length by rw [bs_length,topT_length]; decide) (by rw [idsC_length hids,hl4]; show _ + (bs (topT nm seed)).length≤_; rw [bs_length,topT_length]; decide) (bs_one _) (show over (idsC (trB nm seed 0)) (1 * 32) (bs (topT nm seed))=_ from idsC_set hids (by rw [hl4]; omega) (topT_length _ _)) ?_) ?_
          ·
           refine ⟨⟨rfl,rfl,rfl,trivial⟩,?_⟩
           refine (Ad9 (by kernel_rfl) (X_block (X9 ?_)))
           refine R9 (M9 rfl rfl (L9 rfl (Pn9 rfl rfl rfl (run_sub _ _ _ _ _ (by omega))) (G9 rfl rfl (N9 ?_))))
           exact Xr9 1 (by omega) (by omega) ⟨rfl,rfl,rfl,rfl,lookV_eq rfl (int_eq (by omega)),trivial⟩ ⟨rfl,rfl,rfl,look_eq rfl (by rw [← trB_set nm seed]; exact rowI_of _ (by rw [List.length_set]) rfl),trivial⟩
          exact An9
         exact An9
        exact An9
       exact An9
      exact An9
     refine Z9 rfl rfl (Or9 (Pi9 (r:=103) rfl Try.runUnderlying80 Try.sizeOf29 rfl rfl rfl (fun _ h=>rp9 h) (by rw [hl4]; omega)) ⟨⟨rfl,rfl,rfl,trivial⟩,?_⟩) ?_
     ·
      refine (T9 16 rfl rfl (Pu_sliceArrE rfl Try.runUnderlying29 Try.sizeOf5 rfl) (Y9 [10] ?_))
      refine Z9 rfl rfl (Oa9 (r:=104) (r2:=103) rfl Try.underlying30 TI.hi5 TI.hz5 TI.hs5 TI.hby5 TI.hzs5 (by decide) rfl rfl rfl rfl (fun h hp=>rdP_cast (rd_id (l:=trB nm seed 0) (k:=2) (rp9 hp) hids (by rw [hl4]; omega)) rfl (leafT_length nm seed 0)) (bs_one _) (by unfold maxLen; omega) (by omega) (fun v54=>?_)) ?_
      ·
       refine ⟨⟨rfl,rfl,rfl,trivial⟩,?_⟩
       refine AH_turn (P':=rowB 5 v54 (leafT nm seed 0)) 104 rfl (fun h hp=>rowB_mk hp (by simp [leafT_length]) (by simp [bs,trB])) ?_
       refine (Y9 [17] ?_)
       refine Z9 rfl rfl (Oa9 (r:=104) (r2:=103) rfl Try.underlying30 TI.hi5 TI.hz5 TI.hs5 TI.hby5 TI.hzs5 (by decide) rfl rfl rfl rfl (fun h hp=>rdP_cast (rd_id (l:=trB nm seed 0) (k:=3) (rp9 hp) hids (by rw [hl4]; omega)) rfl (leafT_length nm seed 1)) (bs_one _) (by unfold maxLen; rw [leafT_length]; omega) (by rw [leafT_length]; omega) (fun v61=>?_)) ?_
       ·
        refine ⟨⟨rfl,rfl,rfl,trivial⟩,?_⟩
        refine AH_turn (P':=rowB 5 v61 (leafT nm seed 0++leafT nm seed 1)) 104 rfl (fun h hp=>rowB_mk hp (by simp [leafT_length]) (by rw [bs_append]; rfl)) ?_
        refine (Y9 [18] ?_)
        refine Z9 rfl rfl (Oc9 200 [0,101,102,103,104] [] rfl Try.call53 rfl rfl rfl (by decide) (by decide) (node6_spec nm hn 1 131 v61 (leafT nm seed 0++leafT nm seed 1) (by rw [List.length_append,leafT_length,leafT_length]; omega) _ (rs9 4 rfl rowB_rd)) (fun v62 Ps62 hR62=>?_)) ?_
        ·
         obtain ⟨rfl,rfl⟩:=hR62
         refine ⟨⟨rfl,rfl,rfl,trivial⟩,?_⟩
         refine (Y9 [19] ?_)
         refine Z9 rfl rfl (Or9 (Pi9 (r:=103) rfl Try.runUnderlying80 Try.sizeOf29 rfl rfl rfl (fun _ h=>rp9 h) (by rw [hl4]; omega)) ⟨⟨rfl,rfl,rfl,trivial⟩,?_⟩) ?_
         ·
          refine (Y9 [20] ?_)
          refine Ac09 rfl rfl rfl (OpT_storeS (r:=103) rfl (sz_id (topT_length nm seed)) rfl rfl rfl (show 0 < (bs (topT nm seed)).length by rw [bs_length,topT_length]; decide) (by rw [idsC_length hids,hl4]; show _ + (bs (topT nm seed)).length≤_; rw [bs_length,topT_length]; decide) (bs_one _) (show over (idsC (trB nm seed 0)) (1 * 32) (bs (topT nm seed))=_ from idsC_set hids (by rw [hl4]; omega) (topT_length _ _)) ?_) ?_
          ·
           refine ⟨⟨rfl,rfl,rfl,trivial⟩,?_⟩
           refine (Ad9 (by kernel_rfl) (X_block (X9 ?_)))
           refine R9 (M9 rfl rfl (L9 rfl (Pn9 rfl rfl rfl (run_sub _ _ _ _ _ (by omega))) (G9 rfl rfl (N9 ?_))))
           exact Xr9 1 (by omega) (by omega) ⟨rfl,rfl,rfl,rfl,lookV_eq rfl (int_eq (by omega)),trivial⟩ ⟨rfl,rfl,rfl,look_eq rfl (by rw [← trB_set nm seed]; exact rowI_of _ (by rw [List.length_set]) rfl),trivial⟩
          exact An9
         exact An9
        exact An9
       exact An9
      exact An9
     exact An9
    refine Z9 rfl rfl (Or9 (Pi9 (r:=103) rfl Try.runUnderlying80 Try.sizeOf29 rfl rfl rfl (fun _ h=>rp9 h) (by rw [hl4]; omega)) ⟨⟨rfl,rfl,rfl,trivial⟩,?_⟩) ?_
    ·
     refine (T9 16 rfl rfl (Pu_sliceArrE rfl Try.runUnderlying29 Try.sizeOf5 rfl) (Y9 [4] ?_))
     refine Z9 rfl rfl (OpT_buildOnes (r:=104) (bs []) rfl rfl Try.runUnderlying30 Try.sizeOf5 Try.zeroValue5 rfl rfl (by decide) rfl (bs_cells _) (fun v48=>⟨⟨rfl,rfl,rfl,trivial⟩,?_⟩)) ?_
     ·
      refine (Y9 [10] ?_)
      refine Z9 rfl rfl (Oa9 (r:=104) (r2:=103) rfl Try.underlying30 TI.hi5 TI.hz5 TI.hs5 TI.hby5 TI.hzs5 (by decide) rfl rfl rfl rfl (fun h hp=>rdP_cast (rd_id (l:=trB nm seed 0) (k:=2) (rp9 hp) hids (by rw [hl4]; omega)) rfl (leafT_length nm seed 0)) (bs_one _) (by unfold maxLen; omega) (by omega) (fun v54=>?_)) ?_
      ·
       refine ⟨⟨rfl,rfl,rfl,trivial⟩,?_⟩
       refine AH_turn (P':=rowB 5 v54 (leafT nm seed 0)) 104 rfl (fun h hp=>rowB_mk hp (by simp [leafT_length]) (by simp [bs,trB])) ?_
       refine (Y9 [17] ?_)
       refine Z9 rfl rfl (Oa9 (r:=104) (r2:=103) rfl Try.underlying30 TI.hi5 TI.hz5 TI.hs5 TI.hby5 TI.hzs5 (by decide) rfl rfl rfl rfl (fun h hp=>rdP_cast (rd_id (l:=trB nm seed 0) (k:=3) (rp9 hp) hids (by rw [hl4]; omega)) rfl (leafT_length nm seed 1)) (bs_one _) (by unfold maxLen; rw [leafT_length]; omega) (by rw [leafT_length]; omega) (fun v61=>?_)) ?_
       ·
        refine ⟨⟨rfl,rfl,rfl,trivial⟩,?_⟩
        refine AH_turn (P':=rowB 5 v61 (leafT nm seed 0++leafT nm seed 1)) 104 rfl (fun h hp=>rowB_mk hp (by simp [leafT_length]) (by rw [bs_append]; rfl)) ?_
        refine (Y9 [18] ?_)
        refine Z9 rfl rfl (Oc9 200 [0,101,102,103,104] [] rfl Try.call53 rfl rfl rfl (by decide) (by decide) (node6_spec nm hn 1 131 v61 (leafT nm seed 0++leafT nm seed 1) (by rw [List.length_append,leafT_length,leafT_length]; omega) _ (rs9 4 rfl rowB_rd)) (fun v62 Ps62 hR62=>?_)) ?_
        ·
         obtain ⟨rfl,rfl⟩:=hR62
         refine ⟨⟨rfl,rfl,rfl,trivial⟩,?_⟩
         refine (Y9 [19] ?_)
         refine Z9 rfl rfl (Or9 (Pi9 (r:=103) rfl Try.runUnderlying80 Try.sizeOf29 rfl rfl rfl (fun _ h=>rp9 h) (by rw [hl4]; omega)) ⟨⟨rfl,rfl,rfl,trivial⟩,?_⟩) ?_
         ·
          refine (Y9 [20] ?_)
          refine Ac09 rfl rfl rfl (OpT_storeS (r:=103) rfl (sz_id (topT_length nm seed)) rfl rfl rfl (show 0 < (bs (topT nm seed)).length by rw [bs_length,topT_length]; decide) (by rw [idsC_length hids,hl4]; show _ + (bs (topT nm seed)).length≤_; rw [bs_length,topT_length]; decide) (bs_one _) (show over (idsC (trB nm seed 0)) (1 * 32) (bs (topT nm seed))=_ from idsC_set hids (by rw [hl4]; omega) (topT_length _ _)) ?_) ?_
          ·
           refine ⟨⟨rfl,rfl,rfl,trivial⟩,?_⟩
           refine (Ad9 (by kernel_rfl) (X_block (X9 ?_)))
           refine R9 (M9 rfl rfl (L9 rfl (Pn9 rfl rfl rfl (run_sub _ _ _ _ _ (by omega))) (G9 rfl rfl (N9 ?_))))
           exact Xr9 1 (by omega) (by omega) ⟨rfl,rfl,rfl,rfl,lookV_eq rfl (int_eq (by omega)),trivial⟩ ⟨rfl,rfl,rfl,look_eq rfl (by rw [← trB_set nm seed]; exact rowI_of _ (by rw [List.length_set]) rfl),trivial⟩
          exact An9
         exact An9
        exact An9
       exact An9
      exact An9
     exact An9
    exact An9
   refine Z9 rfl rfl (Or9 (Pi9 (r:=103) rfl Try.runUnderlying80 Try.sizeOf29 rfl rfl rfl (fun _ h=>rp9 h) (by rw [hl4]; omega)) ⟨⟨rfl,rfl,rfl,trivial⟩,?_⟩) ?_
   ·
    refine (T9 16 rfl rfl (Pu_sliceArrE rfl Try.runUnderlying29 Try.sizeOf5 rfl) (Y9 [4,8] ?_))
    refine Z9 rfl rfl (OpT_buildOnes (r:=104) (bs []) rfl rfl Try.runUnderlying30 Try.sizeOf5 Try.zeroValue5 rfl rfl (by decide) rfl (bs_cells _) (fun v48=>⟨⟨rfl,rfl,rfl,trivial⟩,?_⟩)) ?_
    ·
     refine (Y9 [8] ?_)
     refine Z9 rfl rfl (Or9 (Pi9 (r:=103) rfl Try.runUnderlying80 Try.sizeOf29 rfl rfl rfl (fun _ h=>rp9 h) (by rw [hl4]; omega)) ⟨⟨rfl,rfl,rfl,trivial⟩,?_⟩) ?_
     ·
      refine (T9 9 rfl rfl (Pu_sliceArrE rfl Try.runUnderlying29 Try.sizeOf5 rfl) (Y9 [10] ?_))
      refine Z9 rfl rfl (Oa9 (r:=104) (r2:=103) rfl Try.underlying30 TI.hi5 TI.hz5 TI.hs5 TI.hby5 TI.hzs5 (by decide) rfl rfl rfl rfl (fun h hp=>rdP_cast (rd_id (l:=trB nm seed 0) (k:=2) (rp9 hp) hids (by rw [hl4]; omega)) rfl (leafT_length nm seed 0)) (bs_one _) (by unfold maxLen; omega) (by omega) (fun v54=>?_)) ?_
      ·
       refine ⟨⟨rfl,rfl,rfl,trivial⟩,?_⟩
       refine AH_turn (P':=rowB 5 v54 (leafT nm seed 0)) 104 rfl (fun h hp=>rowB_mk hp (by simp [leafT_length]) (by simp [bs,trB])) ?_
       refine (Y9 [17] ?_)
       refine Z9 rfl rfl (Oa9 (r:=104) (r2:=103) rfl Try.underlying30 TI.hi5 TI.hz5 TI.hs5 TI.hby5 TI.hzs5 (by decide) rfl rfl rfl rfl (fun h hp=>rdP_cast (rd_id (l:=trB nm seed 0) (k:=3) (rp9 hp) hids (by rw [hl4]; omega)) rfl (leafT_length nm seed 1)) (bs_one _) (by unfold maxLen; rw [leafT_length]; omega) (by rw [leafT_length]; omega) (fun v61=>?_)) ?_
       ·
        refine ⟨⟨rfl,rfl,rfl,trivial⟩,?_⟩
        refine AH_turn (P':=rowB 5 v61 (leafT nm seed 0++leafT nm seed 1)) 104 rfl (fun h hp=>rowB_mk hp (by simp [leafT_length]) (by rw [bs_append]; rfl)) ?_
        refine (Y9 [18] ?_)
        refine Z9 rfl rfl (Oc9 200 [0,101,102,103,104] [] rfl Try.call53 rfl rfl rfl (by decide) (by decide) (node6_spec nm hn 1 131 v61 (leafT nm seed 0++leafT nm seed 1) (by rw [List.length_append,leafT_length,leafT_length]; omega) _ (rs9 4 rfl rowB_rd)) (fun v62 Ps62 hR62=>?_)) ?_
        ·
         obtain ⟨rfl,rfl⟩:=hR62
         refine ⟨⟨rfl,rfl,rfl,trivial⟩,?_⟩
         refine (Y9 [19] ?_)
         refine Z9 rfl rfl (Or9 (Pi9 (r:=103) rfl Try.runUnderlying80 Try.sizeOf29 rfl rfl rfl (fun _ h=>rp9 h) (by rw [hl4]; omega)) ⟨⟨rfl,rfl,rfl,trivial⟩,?_⟩) ?_
         ·
          refine (Y9 [20] ?_)
          refine Ac09 rfl rfl rfl (OpT_storeS (r:=103) rfl (sz_id (topT_length nm seed)) rfl rfl rfl (show 0 < (bs (topT nm seed)).length by rw [bs_length,topT_length]; decide) (by rw [idsC_length hids,hl4]; show _ + (bs (topT nm seed)).length≤_; rw [bs_length,topT_length]; decide) (bs_one _) (show over (idsC (trB nm seed 0)) (1 * 32) (bs (topT nm seed))=_ from idsC_set hids (by rw [hl4]; omega) (topT_length _ _)) ?_) ?_
          ·
           refine ⟨⟨rfl,rfl,rfl,trivial⟩,?_⟩
           refine (Ad9 (by kernel_rfl) (X_block (X9 ?_)))
           refine R9 (M9 rfl rfl (L9 rfl (Pn9 rfl rfl rfl (run_sub _ _ _ _ _ (by omega))) (G9 rfl rfl (N9 ?_))))
           exact Xr9 1 (by omega) (by omega) ⟨rfl,rfl,rfl,rfl,lookV_eq rfl (int_eq (by omega)),trivial⟩ ⟨rfl,rfl,rfl,look_eq rfl (by rw [← trB_set nm seed]; exact rowI_of _ (by rw [List.length_set]) rfl),trivial⟩
          exact An9
         exact An9
        exact An9
       exact An9
      exact An9
     exact An9
    refine Z9 rfl rfl (Or9 (Pi9 (r:=103) rfl Try.runUnderlying80 Try.sizeOf29 rfl rfl rfl (fun _ h=>rp9 h) (by rw [hl4]; omega)) ⟨⟨rfl,rfl,rfl,trivial⟩,?_⟩) ?_
    ·
     refine (T9 9 rfl rfl (Pu_sliceArrE rfl Try.runUnderlying29 Try.sizeOf5 rfl) (Y9 [4] ?_))
     refine Z9 rfl rfl (OpT_buildOnes (r:=104) (bs []) rfl rfl Try.runUnderlying30 Try.sizeOf5 Try.zeroValue5 rfl rfl (by decide) rfl (bs_cells _) (fun v48=>⟨⟨rfl,rfl,rfl,trivial⟩,?_⟩)) ?_
     ·
      refine (Y9 [10] ?_)
      refine Z9 rfl rfl (Oa9 (r:=104) (r2:=103) rfl Try.underlying30 TI.hi5 TI.hz5 TI.hs5 TI.hby5 TI.hzs5 (by decide) rfl rfl rfl rfl (fun h hp=>rdP_cast (rd_id (l:=trB nm seed 0) (k:=2) (rp9 hp) hids (by rw [hl4]; omega)) rfl (leafT_length nm seed 0)) (bs_one _) (by unfold maxLen; omega) (by omega) (fun v54=>?_)) ?_
      ·
       refine ⟨⟨rfl,rfl,rfl,trivial⟩,?_⟩
       refine AH_turn (P':=rowB 5 v54 (leafT nm seed 0)) 104 rfl (fun h hp=>rowB_mk hp (by simp [leafT_length]) (by simp [bs,trB])) ?_
       refine (Y9 [17] ?_)
       refine Z9 rfl rfl (Oa9 (r:=104) (r2:=103) rfl Try.underlying30 TI.hi5 TI.hz5 TI.hs5 TI.hby5 TI.hzs5 (by decide) rfl rfl rfl rfl (fun h hp=>rdP_cast (rd_id (l:=trB nm seed 0) (k:=3) (rp9 hp) hids (by rw [hl4]; omega)) rfl (leafT_length nm seed 1)) (bs_one _) (by unfold maxLen; rw [leafT_length]; omega) (by rw [leafT_length]; omega) (fun v61=>?_)) ?_
       ·
        refine ⟨⟨rfl,rfl,rfl,trivial⟩,?_⟩
        refine AH_turn (P':=rowB 5 v61 (leafT nm seed 0++leafT nm seed 1)) 104 rfl (fun h hp=>rowB_mk hp (by simp [leafT_length]) (by rw [bs_append]; rfl)) ?_
        refine (Y9 [18] ?_)
        refine Z9 rfl rfl (Oc9 200 [0,101,102,103,104] [] rfl Try.call53 rfl rfl rfl (by decide) (by decide) (node6_spec nm hn 1 131 v61 (leafT nm seed 0++leafT nm seed 1) (by rw [List.length_append,leafT_length,leafT_length]; omega) _ (rs9 4 rfl rowB_rd)) (fun v62 Ps62 hR62=>?_)) ?_
        ·
         obtain ⟨rfl,rfl⟩:=hR62
         refine ⟨⟨rfl,rfl,rfl,trivial⟩,?_⟩
         refine (Y9 [19] ?_)
         refine Z9 rfl rfl (Or9 (Pi9 (r:=103) rfl Try.runUnderlying80 Try.sizeOf29 rfl rfl rfl (fun _ h=>rp9 h) (by rw [hl4]; omega)) ⟨⟨rfl,rfl,rfl,trivial⟩,?_⟩) ?_
         ·
          refine (Y9 [20] ?_)
          refine Ac09 rfl rfl rfl (OpT_storeS (r:=103) rfl (sz_id (topT_length nm seed)) rfl rfl rfl (show 0 < (bs (topT nm seed)).length by rw [bs_length,topT_length]; decide) (by rw [idsC_length hids,hl4]; show _ + (bs (topT nm seed)).length≤_; rw [bs_length,topT_length]; decide) (bs_one _) (show over (idsC (trB nm seed 0)) (1 * 32) (bs (topT nm seed))=_ from idsC_set hids (by rw [hl4]; omega) (topT_length _ _)) ?_) ?_
          ·
           refine ⟨⟨rfl,rfl,rfl,trivial⟩,?_⟩
           refine (Ad9 (by kernel_rfl) (X_block (X9 ?_)))
           refine R9 (M9 rfl rfl (L9 rfl (Pn9 rfl rfl rfl (run_sub _ _ _ _ _ (by omega))) (G9 rfl rfl (N9 ?_))))
           exact Xr9 1 (by omega) (by omega) ⟨rfl,rfl,rfl,rfl,lookV_eq rfl (int_eq (by omega)),trivial⟩ ⟨rfl,rfl,rfl,look_eq rfl (by rw [← trB_set nm seed]; exact rowI_of _ (by rw [List.length_set]) rfl),trivial⟩
          exact An9
         exact An9
        exact An9
       exact An9
      exact An9
     exact An9
    exact An9
   exact An9
  ·
   obtain rfl:x=1:=by have:=of_decide_eq_false hc41; omega
   refine W_exit (X_then_exit (X_then_exit (X_block_exit (X9 ?_))))
   refine Q9 (R9 (M9 rfl rfl (G9 rfl rfl (N9 (X9 ?_)))))
   refine W_ret ?_
   exact Xq9 [103] (Ps:=[_]) (res1 Try.results36 rfl) rfl (by decide) rfl
theorem public6_spec (nm:List UInt8) (hn:nm.length=16) (seed:List UInt8) (hs:seed.length=32) (F:HP):CallsS Try.prog 17 #[idV nm,idV seed,.int .i64 1] F [] (fun r Ps=>∃ v,r = .tuple #[v,.int .i64 0]∧Ps=[rowB 5 v (pubT nm seed)]):=by
 refine callsS_enter Try.func17 rfl Try.ntmps17 (by simp) (fun E=>?_)
 refine Q9 (R9 (Lc9 rfl rfl (by decide) (OpT_box (r:=101) rfl rfl rfl (fun g101=>(Lc9 rfl rfl (by decide) (OpT_box (r:=102) rfl rfl rfl (fun g102=>(G9 rfl rfl (G9 rfl rfl (N9 (X9 (Q9 (Q9 (R9 (M9 rfl rfl (L9 rfl (Pn9 rfl rfl rfl (run_lss _ _ _ _ _ _)) (M9 rfl rfl (Lg9 rfl rfl rfl rfl (by decide) (fun hb=>(Pm9 rfl rfl)) (Lg9 rfl rfl rfl rfl (by decide) (fun hb=>(Pn9 rfl (ev_gv rfl hb) rfl (run_gtr _ _ _ _ _ _))) (L9 rfl (Pu_or rfl rfl rfl) (N9 (X9 ?_))))))))))))))))))))))
 refine W_false rfl (rfl) ?_
 refine K9 (X9 ?_)
 refine Q9 (R9 (L9 rfl (Px9 (r:=101) rfl Try.isAgg52 Try.sizeOf52 rfl rfl ((bs_length _).trans hn) (load_all ((bs_length _).trans hn))) (L9 rfl (Px9 (r:=102) rfl Try.isAgg29 Try.sizeOf29 rfl rfl ((bs_length _).trans hs) (load_all ((bs_length _).trans hs))) (M9 rfl rfl (Lc9 rfl rfl (by decide) (Oc9 200 [0,101,102] [] rfl Try.call36 rfl rfl rfl (by decide) (by decide) (tree6_spec nm hn seed hs _) (fun v18 Ps18 hR18=>?_)))))))
 subst hR18
 refine (G9 rfl rfl (N9 (X9 ?_)))
 refine Q9 ?_
 refine W_nilRow 185 5 1 ?_
 refine W_draw (N:=11) (by kernel_rfl) rfl [(0,_),(101,_),(102,_)] ⟨rfl,rfl,rfl,trivial⟩ ?_
 refine (T9 0 rfl rfl (Pm9 rfl rfl) (T9 3 rfl rfl (Pu_sliceArr rfl Try.runUnderlying52 Try.sizeOf5 rfl) (T9 5 rfl rfl (Pm9 rfl rfl) (Y9 [1,6] ?_))))
 refine Z9 rfl rfl (Oc9 300 [0,101,102,200] [185] rfl Try.call37 rfl rfl rfl (by decide) (by decide) (four6_spec _ rfl _ [] 1 (by simp) _) (fun v20 Ps20 hR20=>?_)) ?_
 ·
  subst hR20
  refine ⟨⟨rfl,rfl,rfl,trivial⟩,?_⟩
  refine (Y9 [2,6] ?_)
  refine Z9 rfl rfl (Oc9 400 [0,101,102,200] [300] rfl Try.call37 rfl rfl rfl (by decide) (by decide) (four6_spec _ rfl _ ([]++numB 1 4) 2 (by simp [numB_length]) _) (fun v21 Ps21 hR21=>?_)) ?_
  ·
   subst hR21
   refine ⟨⟨rfl,rfl,rfl,trivial⟩,?_⟩
   refine (Y9 [4,6] ?_)
   refine Z9 rfl rfl (Oa9 (r:=400) (r2:=101) rfl Try.underlying30 TI.hi5 TI.hz5 TI.hs5 TI.hby5 TI.hzs5 (by decide) rfl rfl rfl rfl (fun _ h=>blk_all h hn) (bs_one _) (by unfold maxLen; simp [numB_length]) (by simp [numB_length]) (fun v23=>?_)) ?_
   ·
    refine ⟨⟨rfl,rfl,rfl,trivial⟩,?_⟩
    refine AH_turn (P':=rowB 5 v23 (numB 1 4++numB 2 4++nm)) 400 rfl (fun h hp=>rowB_mk hp (by simp [numB_length,hn]) (by simp only [bs_append,List.nil_append])) ?_
    refine (Y9 [6] ?_)
    refine Z9 rfl rfl (Or9 (Pi9 (r:=200) rfl Try.runUnderlying80 Try.sizeOf29 rfl rfl rfl rowI_rd (by rw [show (trB nm seed 1).length=4 from rfl]; omega)) ⟨⟨rfl,rfl,rfl,trivial⟩,?_⟩) ?_
    ·
     refine (T9 7 rfl rfl (Pu_sliceArrE rfl Try.runUnderlying29 Try.sizeOf5 rfl) (Y9 [8] ?_))
     refine Z9 rfl rfl (Oa9 (r:=400) (r2:=200) rfl Try.underlying30 TI.hi5 TI.hz5 TI.hs5 TI.hby5 TI.hzs5 (by decide) rfl rfl rfl rfl (fun h hp=>rdP_cast (rd_id (l:=trB nm seed 1) (k:=1) (rowI_rd h hp) (trB_ids nm seed 1) (by rw [show (trB nm seed 1).length=4 from rfl]; omega)) rfl (topT_length nm seed)) (bs_one _) (by unfold maxLen; simp [numB_length,hn]) (by simp [numB_length,hn]) (fun v27=>?_)) ?_
     ·
      refine ⟨⟨rfl,rfl,rfl,trivial⟩,?_⟩
      refine AH_turn (P':=rowB 5 v27 (pubT nm seed)) 400 rfl (fun h hp=>rowB_mk hp (by unfold pubT; simp [numB_length,hn,topT_length]) (by unfold pubT; exact (bs_append _ _).symm)) ?_
      refine (T9 9 rfl rfl (Pg9 rfl rfl) (T9 10 rfl rfl (Pg9 rfl rfl) (Ad9 (by kernel_rfl) (X9 ?_))))
      refine W_ret ?_
      exact Xq9 [400] (Ps:=[_]) (res2 Try.results17 rfl rfl) rfl (by decide) ⟨_,rfl,rfl⟩
     exact An9
    exact An9
   refine Z9 rfl rfl (Or9 (Pi9 (r:=200) rfl Try.runUnderlying80 Try.sizeOf29 rfl rfl rfl rowI_rd (by rw [show (trB nm seed 1).length=4 from rfl]; omega)) ⟨⟨rfl,rfl,rfl,trivial⟩,?_⟩) ?_
   ·
    refine (T9 7 rfl rfl (Pu_sliceArrE rfl Try.runUnderlying29 Try.sizeOf5 rfl) (Y9 [4] ?_))
    refine Z9 rfl rfl (Oa9 (r:=400) (r2:=101) rfl Try.underlying30 TI.hi5 TI.hz5 TI.hs5 TI.hby5 TI.hzs5 (by decide) rfl rfl rfl rfl (fun _ h=>blk_all h hn) (bs_one _) (by unfold maxLen; simp [numB_length]) (by simp [numB_length]) (fun v23=>?_)) ?_
    ·
     refine ⟨⟨rfl,rfl,rfl,trivial⟩,?_⟩
     refine AH_turn (P':=rowB 5 v23 (numB 1 4++numB 2 4++nm)) 400 rfl (fun h hp=>rowB_mk hp (by simp [numB_length,hn]) (by simp only [bs_append,List.nil_append])) ?_
     refine (Y9 [8] ?_)
     refine Z9 rfl rfl (Oa9 (r:=400) (r2:=200) rfl Try.underlying30 TI.hi5 TI.hz5 TI.hs5 TI.hby5 TI.hzs5 (by decide) rfl rfl rfl rfl (fun h hp=>rdP_cast (rd_id (l:=trB nm seed 1) (k:=1) (rowI_rd h hp) (trB_ids nm seed 1) (by rw [show (trB nm seed 1).length=4 from rfl]; omega)) rfl (topT_length nm seed)) (bs_one _) (by unfold maxLen; simp [numB_length,hn]) (by simp [numB_length,hn]) (fun v27=>?_)) ?_
     ·
      refine ⟨⟨rfl,rfl,rfl,trivial⟩,?_⟩
      refine AH_turn (P':=rowB 5 v27 (pubT nm seed)) 400 rfl (fun h hp=>rowB_mk hp (by unfold pubT; simp [numB_length,hn,topT_length]) (by unfold pubT; exact (bs_append _ _).symm)) ?_
      refine (T9 9 rfl rfl (Pg9 rfl rfl) (T9 10 rfl rfl (Pg9 rfl rfl) (Ad9 (by kernel_rfl) (X9 ?_))))
      refine W_ret ?_
      exact Xq9 [400] (Ps:=[_]) (res2 Try.results17 rfl rfl) rfl (by decide) ⟨_,rfl,rfl⟩
     exact An9
    exact An9
   exact An9
  refine Z9 rfl rfl (Or9 (Pi9 (r:=200) rfl Try.runUnderlying80 Try.sizeOf29 rfl rfl rfl rowI_rd (by rw [show (trB nm seed 1).length=4 from rfl]; omega)) ⟨⟨rfl,rfl,rfl,trivial⟩,?_⟩) ?_
  ·
   refine (T9 7 rfl rfl (Pu_sliceArrE rfl Try.runUnderlying29 Try.sizeOf5 rfl) (Y9 [2] ?_))
   refine Z9 rfl rfl (Oc9 400 [0,101,102,200] [300] rfl Try.call37 rfl rfl rfl (by decide) (by decide) (four6_spec _ rfl _ ([]++numB 1 4) 2 (by simp [numB_length]) _) (fun v21 Ps21 hR21=>?_)) ?_
   ·
    subst hR21
    refine ⟨⟨rfl,rfl,rfl,trivial⟩,?_⟩
    refine (Y9 [4] ?_)
    refine Z9 rfl rfl (Oa9 (r:=400) (r2:=101) rfl Try.underlying30 TI.hi5 TI.hz5 TI.hs5 TI.hby5 TI.hzs5 (by decide) rfl rfl rfl rfl (fun _ h=>blk_all h hn) (bs_one _) (by unfold maxLen; simp [numB_length]) (by simp [numB_length]) (fun v23=>?_)) ?_
    ·
     refine ⟨⟨rfl,rfl,rfl,trivial⟩,?_⟩
     refine AH_turn (P':=rowB 5 v23 (numB 1 4++numB 2 4++nm)) 400 rfl (fun h hp=>rowB_mk hp (by simp [numB_length,hn]) (by simp only [bs_append,List.nil_append])) ?_
     refine (Y9 [8] ?_)
     refine Z9 rfl rfl (Oa9 (r:=400) (r2:=200) rfl Try.underlying30 TI.hi5 TI.hz5 TI.hs5 TI.hby5 TI.hzs5 (by decide) rfl rfl rfl rfl (fun h hp=>rdP_cast (rd_id (l:=trB nm seed 1) (k:=1) (rowI_rd h hp) (trB_ids nm seed 1) (by rw [show (trB nm seed 1).length=4 from rfl]; omega)) rfl (topT_length nm seed)) (bs_one _) (by unfold maxLen; simp [numB_length,hn]) (by simp [numB_length,hn]) (fun v27=>?_)) ?_
     ·
      refine ⟨⟨rfl,rfl,rfl,trivial⟩,?_⟩
      refine AH_turn (P':=rowB 5 v27 (pubT nm seed)) 400 rfl (fun h hp=>rowB_mk hp (by unfold pubT; simp [numB_length,hn,topT_length]) (by unfold pubT; exact (bs_append _ _).symm)) ?_
      refine (T9 9 rfl rfl (Pg9 rfl rfl) (T9 10 rfl rfl (Pg9 rfl rfl) (Ad9 (by kernel_rfl) (X9 ?_))))
      refine W_ret ?_
      exact Xq9 [400] (Ps:=[_]) (res2 Try.results17 rfl rfl) rfl (by decide) ⟨_,rfl,rfl⟩
     exact An9
    exact An9
   exact An9
  exact An9
 refine Z9 rfl rfl (Or9 (Pi9 (r:=200) rfl Try.runUnderlying80 Try.sizeOf29 rfl rfl rfl rowI_rd (by rw [show (trB nm seed 1).length=4 from rfl]; omega)) ⟨⟨rfl,rfl,rfl,trivial⟩,?_⟩) ?_
 ·
  refine (T9 7 rfl rfl (Pu_sliceArrE rfl Try.runUnderlying29 Try.sizeOf5 rfl) (Y9 [1] ?_))
  refine Z9 rfl rfl (Oc9 300 [0,101,102,200] [185] rfl Try.call37 rfl rfl rfl (by decide) (by decide) (four6_spec _ rfl _ [] 1 (by simp) _) (fun v20 Ps20 hR20=>?_)) ?_
  ·
   subst hR20
   refine ⟨⟨rfl,rfl,rfl,trivial⟩,?_⟩
   refine (Y9 [2] ?_)
   refine Z9 rfl rfl (Oc9 400 [0,101,102,200] [300] rfl Try.call37 rfl rfl rfl (by decide) (by decide) (four6_spec _ rfl _ ([]++numB 1 4) 2 (by simp [numB_length]) _) (fun v21 Ps21 hR21=>?_)) ?_
   ·
    subst hR21
    refine ⟨⟨rfl,rfl,rfl,trivial⟩,?_⟩
    refine (Y9 [4] ?_)
    refine Z9 rfl rfl (Oa9 (r:=400) (r2:=101) rfl Try.underlying30 TI.hi5 TI.hz5 TI.hs5 TI.hby5 TI.hzs5 (by decide) rfl rfl rfl rfl (fun _ h=>blk_all h hn) (bs_one _) (by unfold maxLen; simp [numB_length]) (by simp [numB_length]) (fun v23=>?_)) ?_
    ·
     refine ⟨⟨rfl,rfl,rfl,trivial⟩,?_⟩
     refine AH_turn (P':=rowB 5 v23 (numB 1 4++numB 2 4++nm)) 400 rfl (fun h hp=>rowB_mk hp (by simp [numB_length,hn]) (by simp only [bs_append,List.nil_append])) ?_
     refine (Y9 [8] ?_)
     refine Z9 rfl rfl (Oa9 (r:=400) (r2:=200) rfl Try.underlying30 TI.hi5 TI.hz5 TI.hs5 TI.hby5 TI.hzs5 (by decide) rfl rfl rfl rfl (fun h hp=>rdP_cast (rd_id (l:=trB nm seed 1) (k:=1) (rowI_rd h hp) (trB_ids nm seed 1) (by rw [show (trB nm seed 1).length=4 from rfl]; omega)) rfl (topT_length nm seed)) (bs_one _) (by unfold maxLen; simp [numB_length,hn]) (by simp [numB_length,hn]) (fun v27=>?_)) ?_
     ·
      refine ⟨⟨rfl,rfl,rfl,trivial⟩,?_⟩
      refine AH_turn (P':=rowB 5 v27 (pubT nm seed)) 400 rfl (fun h hp=>rowB_mk hp (by unfold pubT; simp [numB_length,hn,topT_length]) (by unfold pubT; exact (bs_append _ _).symm)) ?_
      refine (T9 9 rfl rfl (Pg9 rfl rfl) (T9 10 rfl rfl (Pg9 rfl rfl) (Ad9 (by kernel_rfl) (X9 ?_))))
      refine W_ret ?_
      exact Xq9 [400] (Ps:=[_]) (res2 Try.results17 rfl rfl) rfl (by decide) ⟨_,rfl,rfl⟩
     exact An9
    exact An9
   exact An9
  exact An9
 exact An9
open Go.RowKit
set_option maxRecDepth 8000

theorem sign6_spec (nm:List UInt8) (hn:nm.length=16) (seed:List UInt8) (hs:seed.length=32) (q:Nat) (hq:q < 2) (mv:Value) (msg:List UInt8) (hml:msg.length≤1000000) (F:HP) (hm:∀ h,F h→rdB mv msg h):CallsS Try.prog 18 #[idV nm,idV seed,.int .i64 1,.int .i64 (q:Int),mv] F [] (fun r Ps=>∃ v,r = .tuple #[v,.int .i64 0]∧Ps=[rowB 5 v (sgnT nm seed q msg)]):=by
 refine callsS_enter Try.func18 rfl Try.ntmps18 (by simp) (fun E=>?_)
 refine Q9 (R9 (Lc9 rfl rfl (by decide) (OpT_box (r:=101) rfl rfl rfl (fun g101=>(Lc9 rfl rfl (by decide) (OpT_box (r:=102) rfl rfl rfl (fun g102=>(G9 rfl rfl (G9 rfl rfl (N9 (X9 (Q9 (Q9 (R9 (M9 rfl rfl (L9 rfl (Pn9 rfl rfl rfl (run_lss _ _ _ _ _ _)) (M9 rfl rfl (Lg9 rfl rfl rfl rfl (by decide) (fun hb=>(Pm9 rfl rfl)) (Lg9 rfl rfl rfl rfl (by decide) (fun hb=>(Pn9 rfl (ev_gv rfl hb) rfl (run_gtr _ _ _ _ _ _))) (L9 rfl (Pu_or rfl rfl rfl) (N9 (X9 ?_))))))))))))))))))))))
 refine W_false rfl (rfl) ?_
 refine K9 (X9 ?_)
 refine Q9 (Q9 (R9 (M9 rfl rfl (L9 rfl (Pn9 rfl rfl rfl (run_lss _ _ _ _ _ _)) (M9 rfl rfl (Lg9 rfl rfl rfl rfl (by decide) (fun hb=>(Pm9 rfl rfl)) (Lg9 rfl rfl rfl rfl (by decide) (fun hb=>(Pm9 rfl rfl)) (Lg9 rfl rfl rfl rfl (by decide) (fun hb=>(Pu_conv rfl (ev_gv rfl hb) (conv_u64 1 Try.runUnderlying3 Try.runUnderlying71 (by omega)))) (Lg9 rfl rfl rfl rfl (by decide) (fun hb=>(Pn9 rfl rfl (ev_gv rfl hb) (run_shl 1 1 _ _ _ (by decide) (by decide)))) (Lg9 rfl rfl rfl rfl (by decide) (fun hb=>(Pn9 rfl (ev_gv rfl hb) (ev_gv rfl hb) (run_geq _ _ _ _ _ _))) (L9 rfl (Pu_or rfl rfl rfl) (N9 (X9 ?_)))))))))))))
 refine W_false rfl ((by rw [show ((1 * 2 ^ 1:Nat):Int)=2 from rfl]; simp; omega)) ?_
 refine K9 (X9 ?_)
 refine Q9 (R9 (L9 rfl (Px9 (r:=101) rfl Try.isAgg52 Try.sizeOf52 rfl rfl ((bs_length _).trans hn) (load_all ((bs_length _).trans hn))) (L9 rfl (Px9 (r:=102) rfl Try.isAgg29 Try.sizeOf29 rfl rfl ((bs_length _).trans hs) (load_all ((bs_length _).trans hs))) (M9 rfl rfl (Lc9 rfl rfl (by decide) (Oc9 200 [0,101,102] [] rfl Try.call36 rfl rfl rfl (by decide) (by decide) (tree6_spec nm hn seed hs _) (fun v33 Ps33 hR33=>?_)))))))
 subst hR33
 refine (G9 rfl rfl (N9 (X9 ?_)))
 refine W_cut (α:=Value) (fun z13=>[(2,.int .i64 1),(3,.int .i64 (q:Int)),(12,v33),(13,z13)]) (fun z13=>[(0,F),(200,rowI 29 v33 (trB nm seed 1)),(181,rowB 5 z13 (numB (q:Int) 4++sgnO nm q seed msg))]) (fun z13=>True) ?_ (fun z13 _=>?_)
 ·
  refine W_nilRow 185 5 1 ?_
  refine W_draw (N:=9) (by kernel_rfl) rfl [(0,_),(101,_),(102,_)] ⟨rfl,rfl,rfl,trivial⟩ ?_
  refine (T9 0 rfl rfl (Pm9 rfl rfl) (T9 2 rfl rfl (Px9 (r:=101) rfl Try.isAgg52 Try.sizeOf52 rfl rfl ((bs_length _).trans hn) (load_all ((bs_length _).trans hn))) (T9 3 rfl rfl (Pm9 rfl rfl) (T9 4 rfl rfl (Px9 (r:=102) rfl Try.isAgg29 Try.sizeOf29 rfl rfl ((bs_length _).trans hs) (load_all ((bs_length _).trans hs))) (T9 5 rfl rfl (Pm9 rfl rfl) (Y9 [1] ?_))))))
  refine Z9 rfl rfl (Oc9 300 [0,101,102,200] [185] rfl Try.call37 rfl rfl rfl (by decide) (by decide) (four6_spec _ rfl _ [] (q:Int) (by simp) _) (fun v35 Ps35 hR35=>?_)) ?_
  ·
   subst hR35
   refine ⟨⟨rfl,rfl,rfl,trivial⟩,?_⟩
   refine (Y9 [6] ?_)
   refine Z9 rfl rfl (Oc9 400 [0,101,102,200,300] [] rfl Try.call38 rfl rfl rfl (by decide) (by decide) (sign5_spec nm hn (q:Int) seed hs _ msg hml _ (rs9 0 rfl hm)) (fun v40 Ps40 hR40=>?_)) ?_
   ·
    subst hR40
    refine ⟨⟨rfl,rfl,rfl,trivial⟩,?_⟩
    refine (Y9 [7] ?_)
    refine Z9 rfl rfl (Oa9 (r:=300) (r2:=400) rfl Try.underlying30 TI.hi5 TI.hz5 TI.hs5 TI.hby5 TI.hzs5 (by decide) rfl rfl rfl rfl rowB_rd (bs_one _) (by unfold maxLen; simp [numB_length,sgnO_length]) (by simp [numB_length,sgnO_length]) (fun v41=>?_)) ?_
    ·
     refine ⟨⟨rfl,rfl,rfl,trivial⟩,?_⟩
     refine AH_turn (P':=rowB 5 v41 (numB (q:Int) 4++sgnO nm q seed msg)) 300 rfl (fun h hp=>rowB_mk hp (by simp [numB_length,sgnO_length]) (by simp only [bs_append,List.nil_append])) ?_
     refine (T9 8 rfl rfl (Pg9 rfl rfl) (Ad9 (by kernel_rfl) ?_))
     refine X_ren 300 181 rfl ?_
     exact X_cut v41 trivial (a9 rfl) (a9 rfl)
    exact An9
   exact An9
  exact An9
 ·
  refine Q9 (R9 (M9 rfl rfl (M9 rfl rfl (Lc9 rfl rfl (by decide) (Oc9 300 [0,200] [181] rfl Try.call37 rfl rfl rfl (by decide) (by decide) (four6_spec _ rfl z13 (numB (q:Int) 4++sgnO nm q seed msg) 1 (by simp [numB_length,sgnO_length]) _) (fun v44 Ps44 hR44=>?_))))))
  subst hR44
  refine Lt9 (P':=rowB 5 v44 (numB (q:Int) 4++sgnO nm q seed msg++numB 1 4)) 300 rfl (fun h hp=>hp) ?_
  refine (G9 rfl rfl (N9 (X9 ?_)))
  refine Q9 (Q9 (R9 (M9 rfl rfl (L9 rfl (Pu_conv rfl rfl (conv_u64 1 Try.runUnderlying3 Try.runUnderlying71 (by omega))) (L9 rfl (Pn9 rfl rfl rfl (run_shl 1 1 _ _ _ (by decide) (by decide))) ?_)))))
  rw [show ((1 * 2 ^ 1:Nat):Int)=2 from rfl]
  refine (M9 rfl rfl (L9 rfl (Pn9 rfl rfl rfl (run_add _ _ _ _ _ (by omega))) ?_))
  rw [show (2:Int) + (q:Int)=((2 + q:Nat):Int) by omega]
  refine (G9 rfl rfl (N9 (X9 ?_)))
  refine W_block ?_
  refine W_loop (α:=Value × Nat) (fun y=>[(12,v33),(13,y.1),(14,.int .i64 ((if y.2=0 then 2 + q else 1:Nat):Int))]) (fun y=>[(0,F),(200,rowI 29 v33 (trB nm seed 1)),(300,rowB 5 y.1 (if 0 < y.2 then sgnT nm seed q msg else numB (q:Int) 4++sgnO nm q seed msg++numB 1 4))]) (fun y=>y.2≤1) (fun y=>1 - y.2) ((v44,0)) (by show 0≤1; omega) (a9 rfl) (a9 rfl) (fun y hy=>?_)
  obtain ⟨yv,yn⟩:=y
  refine Q9 (Q9 (R9 (M9 rfl rfl (L9 rfl (Pn9 rfl rfl rfl (run_gtr _ _ _ _ _ _)) (N9 (X9 ?_))))))
  refine C9 rfl (fun hc51=>?_) (fun hc51=>?_)
  ·
   obtain rfl:yn=0:=by
    have h1:=of_decide_eq_true hc51
    rcases Nat.eq_zero_or_pos yn with h | h
    ·exact h
    ·exfalso
     obtain rfl:yn=1:=by have:yn≤1:=hy; omega
     exact absurd h1 (by show ¬ (1:Int) < ((1:Nat):Int); omega)
   refine K9 (X9 ?_)
   refine Q9 ?_
   refine W_block ?_
   refine R9 (M9 rfl rfl (M9 rfl rfl (M9 rfl rfl (L9 rfl (Pn9 rfl rfl rfl (run_xorB _ _ (xor_two hq) _ _ _)) (L9 rfl (Pi9 (r:=200) rfl Try.runUnderlying80 Try.sizeOf29 rfl rfl rfl rowI_rd (by rw [show (trB nm seed 1).length=4 from rfl]; omega)) (L9 rfl (Pu_sliceArrE rfl Try.runUnderlying29 Try.sizeOf5 rfl) (Lc9 rfl rfl (by decide) (Oa9 (r:=300) (r2:=200) rfl Try.underlying30 TI.hi5 TI.hz5 TI.hs5 TI.hby5 TI.hzs5 (by decide) rfl rfl rfl rfl (fun h hp=>rdP_cast (rd_id (l:=trB nm seed 1) (k:=2 + (1 - q)) (rowI_rd h hp) (trB_ids nm seed 1) (by rw [show (trB nm seed 1).length=4 from rfl]; omega)) rfl (by rw [trB_leaf nm seed 1 (show 1 - q < 2 by omega),leafT_length])) (bs_one _) (by unfold maxLen; simp [numB_length,sgnO_length]) (by simp [numB_length,sgnO_length]) (fun v60=>?_)))))))))
   refine (G9 rfl rfl (N9 (X_block (X9 ?_))))
   refine R9 (M9 rfl rfl (L9 rfl (Pn9 rfl rfl rfl (run_quo _ _ _ _ _ (by show 0≤((2 + q:Nat):Int)∧((2 + q:Nat):Int) < 9223372036854775808∧(0:Int) < 2; omega))) (G9 rfl rfl (N9 ?_))))
   refine X_turn (P':=rowB 5 v60 (sgnT nm seed q msg)) 300 rfl (fun h hp=>rowB_mk hp (by unfold sgnT; simp [numB_length,sgnO_length,leafT_length]) (by unfold sgnT; rw [trB_leaf nm seed 1 (show 1 - q < 2 by omega)]; exact (bs_append _ _).symm)) ?_
   exact Xr9 (v60,1) (by show 1≤1; omega) (by show 1 - 1 < 1 - 0; omega) ⟨rfl,rfl,lookV_eq rfl (int_eq (by show ((2 + q:Nat):Int) / 2=((1:Nat):Int); omega)),trivial⟩ ⟨rfl,rfl,rfl,trivial⟩
  ·
   obtain rfl:yn=1:=by
    have h1:=of_decide_eq_false hc51
    rcases Nat.eq_zero_or_pos yn with h | h
    ·exfalso
     subst h
     exact h1 (by show (1:Int) < ((2 + q:Nat):Int); omega)
    ·have:yn≤1:=hy; omega
   refine W_exit (X_then_exit (X_then_exit (X_block_exit (X9 ?_))))
   refine Q9 (R9 (M9 rfl rfl (G9 rfl rfl (G9 rfl rfl (N9 (X9 ?_))))))
   refine W_ret ?_
   exact Xq9 [300] (Ps:=[_]) (res2 Try.results18 rfl rfl) rfl (by decide) ⟨_,rfl,rfl⟩
open Go.RowKit
theorem rdB_subL {v:Value} {l l':List UInt8} {h:Hlt} (hr:rdB v l h) {a b:Nat} (hab:a≤b) (hb:b≤l.length) (hl:(l.drop a).take (b - a)=l'):rdB (subV 1 v a b) l' h:=by subst hl; exact rdB_sub hr hab hb
theorem nmTo_setA {l:List UInt8} {a k:Nat} (hl:16≤(l.drop a).length) (hk:k < 16):(bs (nmTo (l.drop a) k)).set (0 + (k:Int).toNat) (bv (at0 l (a + k)))=bs (nmTo (l.drop a) (k + 1)):=by
  rw [Nat.zero_add,Int.toNat_natCast,← at0_off]
  exact nmTo_set hl hk
theorem bckE_bad {sig:List UInt8} (h:(!decide (bckE sig=0))=true):okB sig=false:=by
  unfold bckE at h
  cases hb:okB sig with
  | false=>rfl
  | true=>rw [hb] at h; exact absurd h (by decide)
theorem bckE_good {sig:List UInt8} (h:(!decide (bckE sig=0))=false):okB sig=true:=by
  unfold bckE at h
  cases hb:okB sig with
  | true=>rfl
  | false=>rw [hb] at h; exact absurd h (by decide)
theorem bckE_false {sig:List UInt8} (h:okB sig=false):bckE sig=12:=by unfold bckE; rw [h]; rfl
theorem bckR_true {nm:List UInt8} {q:Int} {msg sig:List UInt8} (h:okB sig=true):bckR nm q msg sig=bckO nm q msg sig:=by unfold bckR; rw [h]; rfl
abbrev nmP (pub:List UInt8):List UInt8:=(pub.drop 8).take 16
structure UpT (pub msg sig:List UInt8) (x r:Nat) (t:List UInt8):Prop where
  le:x≤val pub 4
  lo:2 ^ (val pub 4 - x)≤r
  hi:r < 2 ^ (val pub 4 - x + 1)
  len:t.length=32
  eq:climb (nmP pub) (val pub 4 - x) r t (sig.drop (4300 + 32 * x))=rootT pub msg sig
theorem UpT.more {pub msg sig:List UInt8} {x r:Nat} {t:List UInt8} (h:UpT pub msg sig x r t) (hr:1 < r):x < val pub 4:=by
  have h1:=h.le
  have h2:=h.hi
  rcases Nat.lt_or_ge x (val pub 4) with h3 | h3
  · exact h3
  · rw [show val pub 4 - x=0 by omega] at h2
    have:(2:Nat) ^ (0 + 1)=2:=rfl
    omega
theorem UpT.done {pub msg sig:List UInt8} {x r:Nat} {t:List UInt8} (h:UpT pub msg sig x r t) (hr:¬ 1 < r):t=rootT pub msg sig:=by
  have h1:=h.lo
  have h3:val pub 4 - x=0:=by
    cases hk:val pub 4 - x with
    | zero=>rfl
    | succ k =>
      rw [hk,Nat.pow_succ] at h1
      have:=Nat.one_le_two_pow (n:=k)
      omega
  have h2:=h.eq
  rw [h3] at h2
  exact h2
theorem UpT.step {pub msg sig:List UInt8} {x r:Nat} {t:List UInt8} (h:UpT pub msg sig x r t) (hr:1 < r):UpT pub msg sig (x + 1) (r / 2) (nodH (nmP pub) ((r / 2:Nat):Int) 131 (if r % 2=1 then (sig.drop (4300 + 32 * x)).take 32++t else t++(sig.drop (4300 + 32 * x)).take 32)):=by
  have h0:=h.more hr
  have h1:=h.lo
  have h2:=h.hi
  have h3:=h.eq
  rw [show val pub 4 - x=(val pub 4 - (x + 1)) + 1 by omega] at h1 h2 h3
  rw [Nat.pow_succ] at h1 h2
  rw [climb_succ,List.drop_drop,show 4300 + 32 * x + 32=4300 + 32 * (x + 1) by omega] at h3
  exact ⟨by omega,by omega,by omega,nodH_length _ _ _ _,h3⟩
theorem UpT.even {pub msg sig:List UInt8} {x r:Nat} {t:List UInt8} (h:UpT pub msg sig x r t) (hr:1 < r) (he:r % 2=0):UpT pub msg sig (x + 1) (r / 2) (nodH (nmP pub) ((r / 2:Nat):Int) 131 (t++(sig.drop (4300 + 32 * x)).take 32)):=by
  have:=h.step hr
  rw [if_neg (by omega)] at this
  exact this
theorem UpT.odd {pub msg sig:List UInt8} {x r:Nat} {t:List UInt8} (h:UpT pub msg sig x r t) (hr:1 < r) (he:¬ r % 2=0):UpT pub msg sig (x + 1) (r / 2) (nodH (nmP pub) ((r / 2:Nat):Int) 131 ((sig.drop (4300 + 32 * x)).take 32++t)):=by
  have:=h.step hr
  rw [if_pos (by omega)] at this
  exact this
theorem UpT.start {pub msg sig:List UInt8} (hq:val sig 4 < 2 ^ val pub 4) (hok:okB ((sig.drop 4).take 4292)=true):UpT pub msg sig 0 (2 ^ val pub 4 + val sig 4) (nodH (nmP pub) ((2 ^ val pub 4 + val sig 4:Nat):Int) 130 (bckR (nmP pub) (val sig 4:Nat) msg ((sig.drop 4).take 4292))):=by
  refine ⟨Nat.zero_le _,?_,?_,nodH_length _ _ _ _,?_⟩
  · rw [Nat.sub_zero]; exact Nat.le_add_right _ _
  · rw [Nat.sub_zero,Nat.pow_succ]; omega
  · rw [bckR_true hok]; rfl
open Go.RowKit
set_option maxRecDepth 8000

theorem check6_spec (pv mv sv:Value) (pub msg sig:List UInt8) (hml:msg.length≤1000000) (F:HP) (hp:∀ h,F h→rdB pv pub h) (hm:∀ h,F h→rdB mv msg h) (hsg:∀ h,F h→rdB sv sig h):CallsS Try.prog 32 #[pv,mv,sv] F [] (fun r Ps=>r = .int .i64 (checkT pub msg sig)∧Ps=[]):=by
 refine callsS_enter Try.func32 rfl Try.ntmps32 (by simp) (fun E=>?_)
 refine Q9 ?_
 refine J9 [(0,_),(1,_),(2,_)] [(0,_)] ?_ ⟨rfl,rfl,rfl,trivial⟩ ⟨rfl,trivial⟩
 refine R9 (G9 rfl rfl (N9 (X9 (Q9 (Q9 ?_)))))
 refine J9 [(0,_),(1,_),(2,_),(6,_)] [(0,_)] ?_ ⟨rfl,rfl,rfl,rfl,trivial⟩ ⟨rfl,trivial⟩
 refine R9 (M9 rfl rfl (L9 rfl (Pl9 (r:=0) rfl Try.runUnderlying30 rfl rfl hp) (L9 rfl (Pn9 rfl rfl rfl (run_neq _ _ _ _ _ _)) (N9 (X9 ?_)))))
 refine C9 rfl (fun hc19=>?_) (fun hc19=>?_)
 ·
  have hbad:badPub pub:=by unfold badPub; simp at hc19; omega
  refine Q9 ?_
  refine J9 [(0,_),(1,_),(2,_),(6,_),(19,_)] [(0,_)] ?_ ⟨rfl,rfl,rfl,rfl,rfl,trivial⟩ ⟨rfl,trivial⟩
  refine R9 (G9 rfl rfl (N9 (X9 ?_)))
  refine W_ret (X_then_ret ?_)
  exact Xq9 [] (Ps:=[]) (res1 Try.results32 rfl) rfl (by decide) ⟨by rw [checkT_pub hbad],rfl⟩
 ·
  have hpl:pub.length=56:=by simp at hc19; omega
  refine K9 (X9 ?_)
  refine Q9 ?_
  refine J9 [(0,_),(1,_),(2,_),(6,_),(19,_)] [(0,_)] ?_ ⟨rfl,rfl,rfl,rfl,rfl,trivial⟩ ⟨rfl,trivial⟩
  refine R9 (M9 rfl rfl (Lc9 rfl rfl (by decide) (Oc9 200 [0] [] rfl Try.call51 rfl rfl rfl (by decide) (by decide) (get6_spec _ pub _ (rs9 0 rfl hp) (by omega)) (fun v21 Ps21 hR21=>?_))))
  obtain ⟨rfl,rfl⟩:=hR21
  refine (G9 rfl rfl (N9 (X9 ?_)))
  refine Q9 (Q9 ?_)
  refine J9 [(0,_),(1,_),(2,_),(6,_),(7,_),(19,_)] [(0,_)] ?_ ⟨rfl,rfl,rfl,rfl,rfl,rfl,trivial⟩ ⟨rfl,trivial⟩
  refine R9 (M9 rfl rfl (L9 rfl (Pn9 rfl rfl rfl (run_lss _ _ _ _ _ _)) (M9 rfl rfl (Lg9 rfl rfl rfl rfl (by decide) (fun hb=>(Pm9 rfl rfl)) (Lg9 rfl rfl rfl rfl (by decide) (fun hb=>(Pn9 rfl (ev_gv rfl hb) rfl (run_gtr _ _ _ _ _ _))) (L9 rfl (Pu_or rfl rfl rfl) (M9 rfl rfl (Lg9 rfl rfl rfl rfl (by decide) (fun hb=>(Pm9 rfl rfl)) (Lg9 rfl rfl rfl rfl (by decide) (fun hb=>(Pu_slice (r:=0) (a:=4) (b:=pub.length) rfl Try.runUnderlying30 Try.sizeOf5 (ev_gv rfl hb) rfl hp (.inr ⟨_,_,_,rfl,rfl,rfl⟩) (.inl ⟨rfl,rfl⟩) (by omega) (by omega))) (WL_guard (V:=.int .i64 (val (pub.drop 4) 4:Int)) rfl rfl rfl rfl (by decide) (fun hb=>(Oc9 300 [0] [] rfl Try.call51 (evL_cons (ev_gv rfl hb) evL_nil) rfl rfl (by decide) (by decide) (get6_spec _ (pub.drop 4) _ (rs9 0 rfl (fun h hq=>rdB_tail (hp h hq) (by omega))) (by rw [List.length_drop]; omega)) (fun v31 Ps31 hR31=>⟨hR31.1,fun w hw=>by rw [hR31.2] at hw; exact hw.sub (AllIn.look ⟨rfl,trivial⟩)⟩))) ?_))))))))))
  refine (Lg9 rfl rfl rfl rfl (by decide) (fun hb=>(Pn9 rfl (ev_gv rfl hb) rfl (run_neq _ _ _ _ _ _))) (L9 rfl (Pu_or rfl rfl rfl) (N9 (X9 ?_))))
  refine C9 rfl (fun hc33=>?_) (fun hc33=>?_)
  ·
   have hbad:badPub pub:=by unfold badPub; simp at hc33; omega
   refine Q9 ?_
   refine J9 [(0,_),(1,_),(2,_),(6,_),(7,_),(19,_),(33,_)] [(0,_)] ?_ ⟨rfl,rfl,rfl,rfl,rfl,rfl,rfl,trivial⟩ ⟨rfl,trivial⟩
   refine R9 (G9 rfl rfl (N9 (X9 ?_)))
   refine W_ret (X_then_ret ?_)
   exact Xq9 [] (Ps:=[]) (res1 Try.results32 rfl) rfl (by decide) ⟨by rw [checkT_pub hbad],rfl⟩
  ·
   have hgood:¬ badPub pub:=by unfold badPub; simp at hc33; omega
   have hh:1≤val pub 4∧val pub 4≤5:=by unfold badPub at hgood; omega
   have hpw:2 ^ val pub 4≤32:=Nat.le_trans (Nat.pow_le_pow_right (by decide) hh.2) (by decide)
   refine K9 (X9 ?_)
   refine Q9 (Q9 ?_)
   refine J9 [(0,_),(1,_),(2,_),(6,_),(7,_),(19,_),(33,_)] [(0,_)] ?_ ⟨rfl,rfl,rfl,rfl,rfl,rfl,rfl,trivial⟩ ⟨rfl,trivial⟩
   rcases Bool.eq_false_or_eq_true (!decide ((sig.length:Int)=4300 + 32 * (val pub 4:Int))) with hsp6 | hsp6
   ·
    have hbs:badSig (val pub 4) sig:=by unfold badSig; simp at hsp6; omega
    refine R9 (M9 rfl rfl (L9 rfl (Pl9 (r:=0) rfl Try.runUnderlying30 rfl rfl hsg) (M9 rfl rfl (L9 rfl (Pn9 rfl rfl rfl (run_mul _ _ _ _ _ (by omega))) (L9 rfl (Pn9 rfl rfl rfl (run_add _ _ _ _ _ (by omega))) (L9 rfl (Pn9 rfl rfl rfl (run_neq _ _ _ _ _ _)) (M9 rfl rfl (WL_gF rfl rfl rfl (by rw [hsp6]; rfl) rfl (by decide) (WL_gF rfl rfl rfl (by rw [hsp6]; rfl) rfl (by decide) (WL_gF rfl rfl rfl (by rw [hsp6]; rfl) rfl (by decide) (WL_gF rfl rfl rfl (by rw [hsp6]; rfl) rfl (by decide) (WL_gF rfl rfl rfl (by rw [hsp6]; rfl) rfl (by decide) (L9 rfl (Pu_pickT rfl rfl hsp6 rfl) (M9 rfl rfl (WL_gF rfl rfl rfl (by first | rfl | (rw [hsp6]; rfl)) rfl (by decide) (WL_gF rfl rfl rfl (by first | rfl | (rw [hsp6]; rfl)) rfl (by decide) (WL_gF rfl rfl rfl (by first | rfl | (rw [hsp6]; rfl)) rfl (by decide) (WL_gF rfl rfl rfl (by first | rfl | (rw [hsp6]; rfl)) rfl (by decide) (WL_gF rfl rfl rfl (by first | rfl | (rw [hsp6]; rfl)) rfl (by decide) (WL_gF rfl rfl rfl (by first | rfl | (rw [hsp6]; rfl)) rfl (by decide) (L9 rfl (Pu_pickT rfl rfl rfl rfl) (N9 (X9 ?_)))))))))))))))))))))))
    refine W_true rfl (rfl) ?_
    refine Q9 ?_
    refine J9 [(0,_),(1,_),(2,_),(6,_),(7,_),(19,_),(33,_),(54,_)] [(0,_)] ?_ ⟨rfl,rfl,rfl,rfl,rfl,rfl,rfl,rfl,trivial⟩ ⟨rfl,trivial⟩
    refine R9 (G9 rfl rfl (N9 (X9 ?_)))
    refine W_ret (X_then_ret ?_)
    exact Xq9 [] (Ps:=[]) (res1 Try.results32 rfl) rfl (by decide) ⟨by rw [checkT_sig hgood hbs],rfl⟩
   ·
    have hsl:sig.length=4300 + 32 * val pub 4:=by simp at hsp6; omega
    refine R9 (M9 rfl rfl (L9 rfl (Pl9 (r:=0) rfl Try.runUnderlying30 rfl rfl hsg) (M9 rfl rfl (L9 rfl (Pn9 rfl rfl rfl (run_mul _ _ _ _ _ (by omega))) (L9 rfl (Pn9 rfl rfl rfl (run_add _ _ _ _ _ (by omega))) (L9 rfl (Pn9 rfl rfl rfl (run_neq _ _ _ _ _ _)) (M9 rfl rfl (WL_gPT rfl rfl rfl (by rw [hsp6]; rfl) rfl (by decide) (Pm9 rfl rfl) (WL_gPT rfl rfl rfl (by rw [hsp6]; rfl) rfl (by decide) (Pu_slice (r:=0) (a:=4296) (b:=sig.length) rfl Try.runUnderlying30 Try.sizeOf5 rfl rfl hsg (.inr ⟨_,_,_,rfl,rfl,rfl⟩) (.inl ⟨rfl,rfl⟩) (by omega) (by omega)) (WL_gT rfl rfl rfl (by rw [hsp6]; rfl) rfl (by decide) (Oc9 400 [0] [] rfl Try.call51 rfl rfl rfl (by decide) (by decide) (get6_spec _ (sig.drop 4296) _ (rs9 0 rfl (fun h hq=>rdB_tail (hsg h hq) (by omega))) (by rw [List.length_drop]; omega)) (fun v43 Ps43 hR43=>?_))))))))))))
    obtain ⟨rfl,rfl⟩:=hR43
    refine (WL_gPT rfl rfl rfl (by rw [hsp6]; rfl) rfl (by decide) (Pm9 rfl rfl) (WL_gPT rfl rfl rfl (by rw [hsp6]; rfl) rfl (by decide) (Pn9 rfl rfl rfl (run_neq _ _ _ _ _ _)) (L9 rfl (Pu_pickF rfl rfl hsp6 rfl) (M9 rfl rfl (Lg9 rfl rfl rfl rfl (by decide) (fun hb=>(Pm9 rfl rfl)) (WL_guard (V:=.int .i64 (val sig 4:Int)) rfl rfl rfl rfl (by decide) (fun hb=>(Oc9 500 [0] [] rfl Try.call51 (evL_cons (ev_gv rfl hb) evL_nil) rfl rfl (by decide) (by decide) (get6_spec _ sig _ (rs9 0 rfl hsg) (by omega)) (fun v49 Ps49 hR49=>⟨hR49.1,fun w hw=>by rw [hR49.2] at hw; exact hw.sub (AllIn.look ⟨rfl,trivial⟩)⟩))) ?_))))))
    refine (Lg9 rfl rfl rfl rfl (by decide) (fun hb=>(Pm9 rfl rfl)) (Lg9 rfl rfl rfl rfl (by decide) (fun hb=>(Pu_conv rfl (ev_gv rfl hb) (conv_u64 (val pub 4) Try.runUnderlying3 Try.runUnderlying71 (by omega)))) (Lg9 rfl rfl rfl rfl (by decide) (fun hb=>(Pn9 rfl rfl (ev_gv rfl hb) (run_shl 1 (val pub 4) _ _ _ (by omega) (by omega)))) (Lg9 rfl rfl rfl rfl (by decide) (fun hb=>(Pn9 rfl (ev_gv rfl hb) (ev_gv rfl hb) (run_geq _ _ _ _ _ _))) (L9 rfl (Pu_or rfl rfl rfl) (N9 (X9 ?_)))))))
    refine C9 rfl (fun hc54=>?_) (fun hc54=>?_)
    ·
     have hbs:badSig (val pub 4) sig:=by rw [Nat.one_mul] at hc54; unfold badSig; generalize 2 ^ val pub 4=p2 at hc54 ⊢; simp at hc54; omega
     refine Q9 ?_
     refine J9 [(0,_),(1,_),(2,_),(6,_),(7,_),(19,_),(33,_),(54,_)] [(0,_)] ?_ ⟨rfl,rfl,rfl,rfl,rfl,rfl,rfl,rfl,trivial⟩ ⟨rfl,trivial⟩
     refine R9 (G9 rfl rfl (N9 (X9 ?_)))
     refine W_ret (X_then_ret ?_)
     exact Xq9 [] (Ps:=[]) (res1 Try.results32 rfl) rfl (by decide) ⟨by rw [checkT_sig hgood hbs],rfl⟩
    ·
     have hgs:¬ badSig (val pub 4) sig:=by rw [Nat.one_mul] at hc54; unfold badSig; generalize 2 ^ val pub 4=p2 at hc54 ⊢; simp at hc54; omega
     have hq:val sig 4 < 2 ^ val pub 4:=by unfold badSig at hgs; omega
     have hnm:(nmP pub).length=16:=by rw [List.length_take,List.length_drop]; omega
     have h8:16≤(pub.drop 8).length:=by rw [List.length_drop]; omega
     refine K9 (X9 ?_)
     refine Q9 ?_
     refine J9 [(0,_),(1,_),(2,_),(6,_),(7,_),(19,_),(33,_),(54,_)] [(0,_)] ?_ ⟨rfl,rfl,rfl,rfl,rfl,rfl,rfl,rfl,trivial⟩ ⟨rfl,trivial⟩
     refine R9 (Lc9 rfl rfl (by decide) (OpT_alloc (r:=501) (cs:=(bs (List.replicate 16 0))) rfl (zero_run (by kernel_rfl:(Try.prog.info? 52).bind (·.zero)=some (.agg (bs (List.replicate 16 0)).toArray))) rfl (fun g501=>(N9 (X9 (Q9 (Q9 ?_)))))))
     refine J9 [(0,_),(1,_),(2,_),(6,_),(7,_),(8,_),(19,_),(33,_),(54,_)] [(0,_),(501,_)] ?_ ⟨rfl,rfl,rfl,rfl,rfl,rfl,rfl,rfl,rfl,trivial⟩ ⟨rfl,rfl,trivial⟩
     refine R9 (G9 rfl rfl (N9 (X9 ?_)))
     refine W_block ?_
     refine W_loop (α:=Nat) (fun x=>[(0,pv),(1,mv),(2,sv),(7,.int .i64 (val pub 4:Int)),(8,.pointer (some ⟨g501,0,none⟩)),(9,.int .i64 (x:Int))]) (fun x=>[(0,F),(501,blk g501 52 (bs (nmTo (pub.drop 8) x)))]) (fun x=>x≤16) (fun x=>16 - x) (0) (by omega) ⟨rfl,rfl,rfl,rfl,rfl,rfl,trivial⟩ ⟨rfl,look_eq rfl (by rw [nmTo_zero]),trivial⟩ (fun x hx=>?_)
     have hnl:=nmTo_length h8 hx
     refine Q9 (Q9 ?_)
     refine J9 [(0,_),(1,_),(2,_),(7,_),(8,_),(9,_)] [(0,_),(501,_)] ?_ ⟨rfl,rfl,rfl,rfl,rfl,rfl,trivial⟩ ⟨rfl,rfl,trivial⟩
     refine R9 (M9 rfl rfl (L9 rfl (Pn9 rfl rfl rfl (run_lss _ _ _ _ _ _)) (N9 (X9 ?_))))
     refine C9 rfl (fun hc56=>?_) (fun hc56=>?_)
     ·
      have hlx:x < 16:=by have:=of_decide_eq_true hc56; omega
      refine K9 (X9 ?_)
      refine Q9 ?_
      refine W_block ?_
      refine J9 [(0,_),(1,_),(2,_),(7,_),(8,_),(9,_),(56,_)] [(0,_),(501,_)] ?_ ⟨rfl,rfl,rfl,rfl,rfl,rfl,rfl,trivial⟩ ⟨rfl,rfl,trivial⟩
      refine R9 (M9 rfl rfl (M9 rfl rfl (M9 rfl rfl (L9 rfl (Pn9 rfl rfl rfl (run_add _ _ _ _ _ (by omega))) (L9 rfl (Pu_idxS1 (r:=0) rfl Try.runUnderlying30 Try.sizeOf5 rfl rfl rfl hp (by omega)) (L9 rfl (Py9 (r:=0) rfl Try.isAgg5 rfl rfl hp (bs_at1 (k:=8 + x) (by omega))) (L9 rfl (Pu_idxA rfl Try.runUnderlying52 Try.sizeOf5 rfl rfl (by omega)) (Lc09 rfl rfl (OpT_storeB1 (r:=501) rfl Try.sizeOf5 rfl rfl rfl rfl (by rw [bs_length,hnl]; omega) (nmTo_setA h8 hlx) ?_)))))))))
      refine (N9 (X_block (X9 ?_)))
      refine J9 [(0,_),(1,_),(2,_),(7,_),(8,_),(9,_),(56,_)] [(0,_),(501,_)] ?_ ⟨rfl,rfl,rfl,rfl,rfl,rfl,rfl,trivial⟩ ⟨rfl,rfl,trivial⟩
      refine R9 (M9 rfl rfl (L9 rfl (Pn9 rfl rfl rfl (run_add _ _ _ _ _ (by omega))) (G9 rfl rfl (N9 ?_))))
      exact Xr9 (x + 1) (by omega) (by omega) (a9 rfl) (a9 rfl)
     ·
      obtain rfl:x=16:=by have:=of_decide_eq_false hc56; omega
      rw [nmTo_all]
      refine W_exit (X_then_exit (X_then_exit (X_block_exit (X9 ?_))))
      refine Q9 ?_
      refine J9 [(0,_),(1,_),(2,_),(7,_),(8,_),(9,_),(56,_)] [(0,_),(501,_)] ?_ ⟨rfl,rfl,rfl,rfl,rfl,rfl,rfl,trivial⟩ ⟨rfl,rfl,trivial⟩
      refine R9 (M9 rfl rfl (Lc9 rfl rfl (by decide) (Oc9 600 [0,501] [] rfl Try.call51 rfl rfl rfl (by decide) (by decide) (get6_spec _ sig _ (rs9 0 rfl hsg) (by omega)) (fun v67 Ps67 hR67=>?_))))
      obtain ⟨rfl,rfl⟩:=hR67
      refine (G9 rfl rfl (N9 (X9 ?_)))
      refine W_cut (α:=Nat) (fun z11=>[(0,pv),(1,mv),(2,sv),(7,.int .i64 (val pub 4:Int)),(8,.pointer (some ⟨g501,0,none⟩)),(10,.int .i64 (val sig 4:Int)),(12,.int .i64 (bckE ((sig.drop 4).take 4292))),(11,.pointer (some ⟨z11,0,none⟩))]) (fun z11=>[(0,F),(501,blk g501 52 (bs (nmP pub))),(181,blk z11 29 (bs (bckR (nmP pub) (val sig 4:Nat) msg ((sig.drop 4).take 4292))))]) (fun z11=>True) ?_ (fun z11 _=>?_)
      ·
       refine J9 [(0,_),(1,_),(2,_),(7,_),(8,_),(9,_),(10,_),(56,_)] [(0,_),(501,_)] ?_ ⟨rfl,rfl,rfl,rfl,rfl,rfl,rfl,rfl,trivial⟩ ⟨rfl,rfl,trivial⟩
       refine W_draw (N:=12) (by kernel_rfl) rfl [(0,_),(501,_)] ⟨rfl,rfl,trivial⟩ ?_
       refine (T9 0 rfl rfl (Px9 (r:=501) rfl Try.isAgg52 Try.sizeOf52 rfl rfl ((bs_length _).trans hnm) (load_all ((bs_length _).trans hnm))) (T9 1 rfl rfl (Pm9 rfl rfl) (T9 2 rfl rfl (Pm9 rfl rfl) (T9 3 rfl rfl (Pm9 rfl rfl) (T9 4 rfl rfl (Pu_slice (r:=0) (a:=4) (b:=4296) rfl Try.runUnderlying30 Try.sizeOf5 rfl rfl hsg (.inr ⟨_,_,_,rfl,rfl,rfl⟩) (.inr ⟨_,_,_,rfl,rfl,rfl⟩) (by omega) (by omega)) (Y9 [5,9] ?_))))))
       refine Z9 rfl rfl (Oc9 700 [0,501] [] rfl Try.call52 rfl rfl rfl (by decide) (by decide) (back5_spec (nmP pub) hnm (val sig 4:Nat) _ _ msg ((sig.drop 4).take 4292) hml _ (rs9 0 rfl hm) (rs9 0 rfl (fun h hq=>rdB_subL (hsg h hq) (by omega) (by omega) rfl))) (fun v74 Ps74 hR74=>?_)) ?_
       ·
        obtain ⟨rfl,rfl⟩:=hR74
        refine ⟨⟨rfl,rfl,trivial⟩,?_⟩
        refine (T9 6 rfl rfl (Pm9 rfl rfl) (T9 7 rfl rfl (Pe9 rfl rfl rfl) (T9 8 rfl rfl (Pe9 rfl rfl rfl) (Y9 [9] ?_))))
        refine Z9 rfl rfl (OpT_alloc (r:=701) (cs:=(bs zeroId)) rfl (zero_run (by kernel_rfl:(Try.prog.info? 29).bind (·.zero)=some (.agg (bs zeroId).toArray))) rfl (fun g701=>⟨⟨rfl,rfl,trivial⟩,?_⟩)) ?_
        ·
         refine (Y9 [10] ?_)
         refine Ac09 rfl rfl rfl (OpT_storeAll (r:=701) rfl Try.sizeOf29 rfl rfl rfl rfl ((bs_length _).trans (bckR_length _ _ _ _)) (bs_one _) ?_) ?_
         ·
          refine ⟨⟨rfl,rfl,trivial⟩,?_⟩
          refine (T9 11 rfl rfl (Pg9 rfl rfl) (Ad9 (by kernel_rfl) ?_))
          refine X_ren 701 181 rfl ?_
          exact X_cut g701 trivial (a9 rfl) (a9 rfl)
         exact An9
        exact An9
       refine Z9 rfl rfl (OpT_alloc (r:=601) (cs:=(bs zeroId)) rfl (zero_run (by kernel_rfl:(Try.prog.info? 29).bind (·.zero)=some (.agg (bs zeroId).toArray))) rfl (fun g601=>⟨⟨rfl,rfl,trivial⟩,?_⟩)) ?_
       ·
        refine (Y9 [5] ?_)
        refine Z9 rfl rfl (Oc9 700 [0,501,601] [] rfl Try.call52 rfl rfl rfl (by decide) (by decide) (back5_spec (nmP pub) hnm (val sig 4:Nat) _ _ msg ((sig.drop 4).take 4292) hml _ (rs9 0 rfl hm) (rs9 0 rfl (fun h hq=>rdB_subL (hsg h hq) (by omega) (by omega) rfl))) (fun v74 Ps74 hR74=>?_)) ?_
        ·
         obtain ⟨rfl,rfl⟩:=hR74
         refine ⟨⟨rfl,rfl,trivial⟩,?_⟩
         refine (T9 6 rfl rfl (Pm9 rfl rfl) (T9 7 rfl rfl (Pe9 rfl rfl rfl) (T9 8 rfl rfl (Pe9 rfl rfl rfl) (Y9 [10] ?_))))
         refine Ac09 rfl rfl rfl (OpT_storeAll (r:=601) rfl Try.sizeOf29 rfl rfl rfl rfl ((bs_length _).trans (bckR_length _ _ _ _)) (bs_one _) ?_) ?_
         ·
          refine ⟨⟨rfl,rfl,trivial⟩,?_⟩
          refine (T9 11 rfl rfl (Pg9 rfl rfl) (Ad9 (by kernel_rfl) ?_))
          refine X_ren 601 181 rfl ?_
          exact X_cut g601 trivial (a9 rfl) (a9 rfl)
         exact An9
        exact An9
       exact An9
      ·
       refine Q9 (Q9 ?_)
       refine J9 [(0,_),(1,_),(2,_),(7,_),(8,_),(10,_),(11,_),(12,_)] [(0,_),(181,_),(501,_)] ?_ ⟨rfl,rfl,rfl,rfl,rfl,rfl,rfl,rfl,trivial⟩ ⟨rfl,rfl,rfl,trivial⟩
       refine R9 (M9 rfl rfl (L9 rfl (Pn9 rfl rfl rfl (run_neq _ _ _ _ _ _)) (N9 (X9 ?_))))
       refine C9 rfl (fun hc78=>?_) (fun hc78=>?_)
       ·
        have hno:=bckE_bad hc78
        refine Q9 ?_
        refine J9 [(0,_),(1,_),(2,_),(7,_),(8,_),(10,_),(11,_),(12,_),(78,_)] [(0,_),(181,_),(501,_)] ?_ ⟨rfl,rfl,rfl,rfl,rfl,rfl,rfl,rfl,rfl,trivial⟩ ⟨rfl,rfl,rfl,trivial⟩
        refine R9 (M9 rfl rfl (G9 rfl rfl (N9 (X9 ?_))))
        refine W_ret (X_then_ret ?_)
        exact Xq9 [] (Ps:=[]) (res1 Try.results32 rfl) rfl (by decide) ⟨by rw [checkT_front hgood hgs hno,bckE_false hno],rfl⟩
       ·
        have hok:=bckE_good hc78
        refine K9 (X9 ?_)
        refine Q9 ?_
        refine J9 [(0,_),(1,_),(2,_),(7,_),(8,_),(10,_),(11,_),(12,_),(78,_)] [(0,_),(181,_),(501,_)] ?_ ⟨rfl,rfl,rfl,rfl,rfl,rfl,rfl,rfl,rfl,trivial⟩ ⟨rfl,rfl,rfl,trivial⟩
        refine R9 (M9 rfl rfl (L9 rfl (Pu_conv rfl rfl (conv_u64 (val pub 4) Try.runUnderlying3 Try.runUnderlying71 (by omega))) (L9 rfl (Pn9 rfl rfl rfl (run_shl 1 (val pub 4) _ _ _ (by omega) (by omega))) (M9 rfl rfl (L9 rfl (Pn9 rfl rfl rfl (run_add _ _ _ _ _ (by omega))) ?_)))))
        rw [show ((1 * 2 ^ val pub 4:Nat):Int) + (val sig 4:Int)=(((2 ^ val pub 4 + val sig 4:Nat)):Int) by rw [Nat.one_mul]; rfl]
        refine (G9 rfl rfl (N9 (X9 ?_)))
        refine W_cut (α:=Nat) (fun z14=>[(0,pv),(2,sv),(8,.pointer (some ⟨g501,0,none⟩)),(13,.int .i64 (((2 ^ val pub 4 + val sig 4):Nat):Int)),(14,.pointer (some ⟨z14,0,none⟩))]) (fun z14=>[(0,F),(501,blk g501 52 (bs (nmP pub))),(182,blk z14 29 (bs (nodH (nmP pub) (((2 ^ val pub 4 + val sig 4):Nat):Int) 130 (bckR (nmP pub) (val sig 4:Nat) msg ((sig.drop 4).take 4292)))))]) (fun z14=>True) ?_ (fun z14 _=>?_)
        ·
         refine J9 [(0,_),(1,_),(2,_),(7,_),(8,_),(10,_),(11,_),(12,_),(13,_),(78,_)] [(0,_),(181,_),(501,_)] ?_ ⟨rfl,rfl,rfl,rfl,rfl,rfl,rfl,rfl,rfl,rfl,trivial⟩ ⟨rfl,rfl,rfl,trivial⟩
         refine W_draw (N:=6) (by kernel_rfl) rfl [(0,_),(181,_),(501,_)] ⟨rfl,rfl,rfl,trivial⟩ ?_
         refine (T9 0 rfl rfl (Px9 (r:=501) rfl Try.isAgg52 Try.sizeOf52 rfl rfl ((bs_length _).trans hnm) (load_all ((bs_length _).trans hnm))) (T9 1 rfl rfl (Pm9 rfl rfl) (T9 2 rfl rfl (Pu_sliceArr rfl Try.runUnderlying29 Try.sizeOf5 rfl) (Y9 [3,4] ?_))))
         refine Z9 rfl rfl (Oc9 700 [0,181,501] [] rfl Try.call53 rfl rfl rfl (by decide) (by decide) (node6_spec (nmP pub) hnm (((2 ^ val pub 4 + val sig 4):Nat):Int) 130 _ (bckR (nmP pub) (val sig 4:Nat) msg ((sig.drop 4).take 4292)) (by rw [bckR_length]; omega) _ (fun h hq=>rdP_cast (rs9 1 rfl (fun _ h=>blk_all (m:=32) h (bckR_length _ _ _ _)) h hq) rfl (bckR_length _ _ _ _).symm)) (fun v88 Ps88 hR88=>?_)) ?_
         ·
          obtain ⟨rfl,rfl⟩:=hR88
          refine ⟨⟨rfl,rfl,rfl,trivial⟩,?_⟩
          refine (Y9 [4] ?_)
          refine Z9 rfl rfl (OpT_alloc (r:=701) (cs:=(bs zeroId)) rfl (zero_run (by kernel_rfl:(Try.prog.info? 29).bind (·.zero)=some (.agg (bs zeroId).toArray))) rfl (fun g701=>⟨⟨rfl,rfl,rfl,trivial⟩,?_⟩)) ?_
          ·
           refine (Y9 [5] ?_)
           refine Ac09 rfl rfl rfl (OpT_storeAll (r:=701) rfl Try.sizeOf29 rfl rfl rfl rfl ((bs_length _).trans (nodH_length _ _ _ _)) (bs_one _) ?_) ?_
           ·
            refine ⟨⟨rfl,rfl,rfl,trivial⟩,?_⟩
            refine (Ad9 (by kernel_rfl) ?_)
            refine X_ren 701 182 rfl ?_
            exact X_cut g701 trivial (a9 rfl) (a9 rfl)
           exact An9
          exact An9
         refine Z9 rfl rfl (OpT_alloc (r:=601) (cs:=(bs zeroId)) rfl (zero_run (by kernel_rfl:(Try.prog.info? 29).bind (·.zero)=some (.agg (bs zeroId).toArray))) rfl (fun g601=>⟨⟨rfl,rfl,rfl,trivial⟩,?_⟩)) ?_
         ·
          refine (Y9 [3] ?_)
          refine Z9 rfl rfl (Oc9 700 [0,181,501,601] [] rfl Try.call53 rfl rfl rfl (by decide) (by decide) (node6_spec (nmP pub) hnm (((2 ^ val pub 4 + val sig 4):Nat):Int) 130 _ (bckR (nmP pub) (val sig 4:Nat) msg ((sig.drop 4).take 4292)) (by rw [bckR_length]; omega) _ (fun h hq=>rdP_cast (rs9 1 rfl (fun _ h=>blk_all (m:=32) h (bckR_length _ _ _ _)) h hq) rfl (bckR_length _ _ _ _).symm)) (fun v88 Ps88 hR88=>?_)) ?_
          ·
           obtain ⟨rfl,rfl⟩:=hR88
           refine ⟨⟨rfl,rfl,rfl,trivial⟩,?_⟩
           refine (Y9 [5] ?_)
           refine Ac09 rfl rfl rfl (OpT_storeAll (r:=601) rfl Try.sizeOf29 rfl rfl rfl rfl ((bs_length _).trans (nodH_length _ _ _ _)) (bs_one _) ?_) ?_
           ·
            refine ⟨⟨rfl,rfl,rfl,trivial⟩,?_⟩
            refine (Ad9 (by kernel_rfl) ?_)
            refine X_ren 601 182 rfl ?_
            exact X_cut g601 trivial (a9 rfl) (a9 rfl)
           exact An9
          exact An9
         exact An9
        ·
         refine Q9 (Q9 ?_)
         refine J9 [(0,_),(2,_),(8,_),(13,_),(14,_)] [(0,_),(182,_),(501,_)] ?_ ⟨rfl,rfl,rfl,rfl,rfl,trivial⟩ ⟨rfl,rfl,rfl,trivial⟩
         refine R9 (G9 rfl rfl (N9 (X9 ?_)))
         refine W_block ?_
         refine W_loop (α:=Nat × Nat × List UInt8) (fun y=>[(0,pv),(2,sv),(8,.pointer (some ⟨g501,0,none⟩)),(13,.int .i64 ((y.2.1:Nat):Int)),(14,.pointer (some ⟨z14,0,none⟩)),(15,.int .i64 (y.1:Int))]) (fun y=>[(0,F),(501,blk g501 52 (bs (nmP pub))),(182,blk z14 29 (bs y.2.2))]) (fun y=>UpT pub msg sig y.1 y.2.1 y.2.2) (fun y=>val pub 4 - y.1) ((0,(2 ^ val pub 4 + val sig 4),nodH (nmP pub) (((2 ^ val pub 4 + val sig 4):Nat):Int) 130 (bckR (nmP pub) (val sig 4:Nat) msg ((sig.drop 4).take 4292)))) (UpT.start hq hok) (a9 rfl) (a9 rfl) (fun y hy=>?_)
         have hyl:=hy.len
         have hle:=hy.le
         have hhi:y.2.1 < 64:=by have h1:=hy.hi; have h2:2 ^ (val pub 4 - y.1 + 1)≤2 ^ 6:=Nat.pow_le_pow_right (by decide) (by omega); omega
         refine Q9 (Q9 ?_)
         refine J9 [(0,_),(2,_),(8,_),(13,_),(14,_),(15,_)] [(0,_),(182,_),(501,_)] ?_ ⟨rfl,rfl,rfl,rfl,rfl,rfl,trivial⟩ ⟨rfl,rfl,rfl,trivial⟩
         refine R9 (M9 rfl rfl (L9 rfl (Pn9 rfl rfl rfl (run_gtr _ _ _ _ _ _)) (N9 (X9 ?_))))
         refine C9 rfl (fun hc90=>?_) (fun hc90=>?_)
         ·
          have hr1:1 < y.2.1:=by have:=of_decide_eq_true hc90; omega
          have hxh:=hy.more hr1
          have hPl:((sig.drop (4300 + 32 * y.1)).take 32).length=32:=by rw [List.length_take,List.length_drop]; omega
          refine K9 (X9 ?_)
          refine Q9 ?_
          refine W_block ?_
          refine Q9 ?_
          refine J9 [(0,_),(2,_),(8,_),(13,_),(14,_),(15,_),(90,_)] [(0,_),(182,_),(501,_)] ?_ ⟨rfl,rfl,rfl,rfl,rfl,rfl,rfl,trivial⟩ ⟨rfl,rfl,rfl,trivial⟩
          refine R9 (M9 rfl rfl (M9 rfl rfl (L9 rfl (Pn9 rfl rfl rfl (run_mul _ _ _ _ _ (by omega))) (L9 rfl (Pn9 rfl rfl rfl (run_add _ _ _ _ _ (by omega))) (M9 rfl rfl (L9 rfl (Pn9 rfl rfl rfl (run_mul _ _ _ _ _ (by omega))) (L9 rfl (Pn9 rfl rfl rfl (run_add _ _ _ _ _ (by omega))) (L9 rfl (Pu_slice (r:=0) (a:=4300 + 32 * y.1) (b:=4332 + 32 * y.1) rfl Try.runUnderlying30 Try.sizeOf5 rfl rfl hsg (.inr ⟨_,_,_,rfl,rfl,(by omega)⟩) (.inr ⟨_,_,_,rfl,rfl,(by omega)⟩) (by omega) (by omega)) (G9 rfl rfl (N9 (X9 (Q9 (Q9 ?_)))))))))))))
          refine J9 [(0,_),(2,_),(8,_),(13,_),(14,_),(15,_),(16,_),(90,_)] [(0,_),(182,_),(501,_)] ?_ ⟨rfl,rfl,rfl,rfl,rfl,rfl,rfl,rfl,trivial⟩ ⟨rfl,rfl,rfl,trivial⟩
          refine R9 (M9 rfl rfl (L9 rfl (Pn9 rfl rfl rfl (run_rem _ _ _ _ _ (by omega))) (L9 rfl (Pn9 rfl rfl rfl (run_eql _ _ _ _ _ _)) (N9 (X9 ?_)))))
          refine C9 rfl (fun hc103=>?_) (fun hc103=>?_)
          ·
           have he:y.2.1 % 2=0:=by have:=of_decide_eq_true hc103; omega
           refine J9 [(0,_),(2,_),(8,_),(13,_),(14,_),(15,_),(16,_),(90,_),(103,_)] [(0,_),(182,_),(501,_)] ?_ ⟨rfl,rfl,rfl,rfl,rfl,rfl,rfl,rfl,rfl,trivial⟩ ⟨rfl,rfl,rfl,trivial⟩
           refine W_draw (N:=10) (by kernel_rfl) rfl [(0,_),(501,_)] ⟨rfl,rfl,trivial⟩ ?_
           refine (T9 0 rfl rfl (Px9 (r:=501) rfl Try.isAgg52 Try.sizeOf52 rfl rfl ((bs_length _).trans hnm) (load_all ((bs_length _).trans hnm))) (T9 1 rfl rfl (Pm9 rfl rfl) (T9 2 rfl rfl (Pn9 rfl rfl rfl (run_quo _ _ _ _ _ (by omega))) ?_)))
           rw [show ((y.2.1:Nat):Int) / 2=((y.2.1 / 2:Nat):Int) by omega]
           refine (T9 4 rfl rfl (Pu_sliceArr rfl Try.runUnderlying29 Try.sizeOf5 rfl) (T9 6 rfl rfl (Pm9 rfl rfl) (Y9 [3] ?_)))
           refine Z9 rfl rfl (OpT_buildOnes (r:=601) (bs []) rfl rfl Try.runUnderlying30 Try.sizeOf5 Try.zeroValue5 rfl rfl (by decide) rfl (bs_cells _) (fun v107=>⟨⟨rfl,rfl,trivial⟩,?_⟩)) ?_
           ·
            refine (Y9 [5] ?_)
            refine Z9 rfl rfl (Oa9 (r:=601) (r2:=182) rfl Try.underlying30 TI.hi5 TI.hz5 TI.hs5 TI.hby5 TI.hzs5 (by decide) rfl rfl rfl rfl (fun _ h=>blk_all h hyl) (bs_one _) (by unfold maxLen; omega) (by omega) (fun v109=>?_)) ?_
            ·
             refine ⟨⟨rfl,rfl,trivial⟩,?_⟩
             refine AH_turn (P':=rowB 5 v109 (y.2.2)) 601 rfl (fun h hp=>rowB_mk hp (by simp [hyl]) (by simp [bs])) ?_
             refine (Y9 [7] ?_)
             refine Z9 rfl rfl (Oa9 (r:=601) (r2:=0) rfl Try.underlying30 TI.hi5 TI.hz5 TI.hs5 TI.hby5 TI.hzs5 (by decide) rfl rfl rfl rfl (fun h hq=>rdP_cast (rdB_subL (hsg h hq) (by omega) (by omega) (by rw [show 4332 + 32 * y.1 - (4300 + 32 * y.1)=32 by omega])) rfl hPl) (bs_one _) (by unfold maxLen; omega) (by omega) (fun v111=>?_)) ?_
             ·
              refine ⟨⟨rfl,rfl,trivial⟩,?_⟩
              refine AH_turn (P':=rowB 5 v111 (y.2.2++((sig.drop (4300 + 32 * y.1)).take 32))) 601 rfl (fun h hp=>rowB_mk hp (by rw [List.length_append,hPl]) (by rw [bs_append])) ?_
              refine (Y9 [8] ?_)
              refine Z9 rfl rfl (Oc9 700 [0,182,501,601] [] rfl Try.call53 rfl rfl rfl (by decide) (by decide) (node6_spec (nmP pub) hnm ((y.2.1 / 2:Nat):Int) 131 _ (y.2.2++((sig.drop (4300 + 32 * y.1)).take 32)) (by simp only [List.length_append,hyl,hPl]; omega) _ (rs9 3 rfl rowB_rd)) (fun v112 Ps112 hR112=>?_)) ?_
              ·
               obtain ⟨rfl,rfl⟩:=hR112
               refine ⟨⟨rfl,rfl,trivial⟩,?_⟩
               refine (Y9 [9] ?_)
               refine Ac09 rfl rfl rfl (OpT_storeAll (r:=182) rfl Try.sizeOf29 rfl rfl rfl ((bs_length _).trans hyl) ((bs_length _).trans (nodH_length _ _ _ _)) (bs_one _) ?_) ?_
               ·
                refine ⟨⟨rfl,rfl,trivial⟩,?_⟩
                refine (Ad9 (by kernel_rfl) (X9 ?_))
                refine J9 [(0,_),(2,_),(8,_),(13,_),(14,_),(15,_),(16,_),(90,_),(103,_)] [(0,_),(182,_),(501,_),(601,_)] ?_ ⟨rfl,rfl,rfl,rfl,rfl,rfl,rfl,rfl,rfl,trivial⟩ ⟨rfl,rfl,rfl,rfl,trivial⟩
                refine R9 (M9 rfl rfl (L9 rfl (Pn9 rfl rfl rfl (run_quo _ _ _ _ _ (by omega))) ?_))
                rw [show ((y.2.1:Nat):Int) / 2=((y.2.1 / 2:Nat):Int) by omega]
                refine (G9 rfl rfl (N9 (X_block (X9 ?_))))
                refine J9 [(0,_),(2,_),(8,_),(13,_),(14,_),(15,_),(16,_),(90,_),(103,_)] [(0,_),(182,_),(501,_),(601,_)] ?_ ⟨rfl,rfl,rfl,rfl,rfl,rfl,rfl,rfl,rfl,trivial⟩ ⟨rfl,rfl,rfl,rfl,trivial⟩
                refine R9 (M9 rfl rfl (L9 rfl (Pn9 rfl rfl rfl (run_add _ _ _ _ _ (by omega))) (G9 rfl rfl (N9 ?_))))
                exact Xr9 (y.1 + 1,y.2.1 / 2,_) (hy.even hr1 he) (by show val pub 4 - (y.1 + 1) < val pub 4 - y.1; omega) (a9 rfl) (a9 rfl)
               exact An9
              exact An9
             exact An9
            exact An9
           exact An9
          ·
           have he:¬ y.2.1 % 2=0:=by have:=of_decide_eq_false hc103; omega
           refine J9 [(0,_),(2,_),(8,_),(13,_),(14,_),(15,_),(16,_),(90,_),(103,_)] [(0,_),(182,_),(501,_)] ?_ ⟨rfl,rfl,rfl,rfl,rfl,rfl,rfl,rfl,rfl,trivial⟩ ⟨rfl,rfl,rfl,trivial⟩
           refine W_draw (N:=10) (by kernel_rfl) rfl [(0,_),(501,_)] ⟨rfl,rfl,trivial⟩ ?_
           refine (T9 0 rfl rfl (Px9 (r:=501) rfl Try.isAgg52 Try.sizeOf52 rfl rfl ((bs_length _).trans hnm) (load_all ((bs_length _).trans hnm))) (T9 1 rfl rfl (Pm9 rfl rfl) (T9 2 rfl rfl (Pn9 rfl rfl rfl (run_quo _ _ _ _ _ (by omega))) ?_)))
           rw [show ((y.2.1:Nat):Int) / 2=((y.2.1 / 2:Nat):Int) by omega]
           refine (T9 4 rfl rfl (Pm9 rfl rfl) (T9 6 rfl rfl (Pu_sliceArr rfl Try.runUnderlying29 Try.sizeOf5 rfl) (Y9 [3] ?_)))
           refine Z9 rfl rfl (OpT_buildOnes (r:=601) (bs []) rfl rfl Try.runUnderlying30 Try.sizeOf5 Try.zeroValue5 rfl rfl (by decide) rfl (bs_cells _) (fun v116=>⟨⟨rfl,rfl,trivial⟩,?_⟩)) ?_
           ·
            refine (Y9 [5] ?_)
            refine Z9 rfl rfl (Oa9 (r:=601) (r2:=0) rfl Try.underlying30 TI.hi5 TI.hz5 TI.hs5 TI.hby5 TI.hzs5 (by decide) rfl rfl rfl rfl (fun h hq=>rdP_cast (rdB_subL (hsg h hq) (by omega) (by omega) (by rw [show 4332 + 32 * y.1 - (4300 + 32 * y.1)=32 by omega])) rfl hPl) (bs_one _) (by unfold maxLen; omega) (by omega) (fun v118=>?_)) ?_
            ·
             refine ⟨⟨rfl,rfl,trivial⟩,?_⟩
             refine AH_turn (P':=rowB 5 v118 (((sig.drop (4300 + 32 * y.1)).take 32))) 601 rfl (fun h hp=>rowB_mk hp (by rw [hPl]) (by simp [bs])) ?_
             refine (Y9 [7] ?_)
             refine Z9 rfl rfl (Oa9 (r:=601) (r2:=182) rfl Try.underlying30 TI.hi5 TI.hz5 TI.hs5 TI.hby5 TI.hzs5 (by decide) rfl rfl rfl rfl (fun _ h=>blk_all h hyl) (bs_one _) (by unfold maxLen; omega) (by omega) (fun v120=>?_)) ?_
             ·
              refine ⟨⟨rfl,rfl,trivial⟩,?_⟩
              refine AH_turn (P':=rowB 5 v120 (((sig.drop (4300 + 32 * y.1)).take 32)++y.2.2)) 601 rfl (fun h hp=>rowB_mk hp (by rw [List.length_append,hyl]) (by rw [bs_append])) ?_
              refine (Y9 [8] ?_)
              refine Z9 rfl rfl (Oc9 700 [0,182,501,601] [] rfl Try.call53 rfl rfl rfl (by decide) (by decide) (node6_spec (nmP pub) hnm ((y.2.1 / 2:Nat):Int) 131 _ (((sig.drop (4300 + 32 * y.1)).take 32)++y.2.2) (by simp only [List.length_append,hyl,hPl]; omega) _ (rs9 3 rfl rowB_rd)) (fun v121 Ps121 hR121=>?_)) ?_
              ·
               obtain ⟨rfl,rfl⟩:=hR121
               refine ⟨⟨rfl,rfl,trivial⟩,?_⟩
               refine (Y9 [9] ?_)
               refine Ac09 rfl rfl rfl (OpT_storeAll (r:=182) rfl Try.sizeOf29 rfl rfl rfl ((bs_length _).trans hyl) ((bs_length _).trans (nodH_length _ _ _ _)) (bs_one _) ?_) ?_
               ·
                refine ⟨⟨rfl,rfl,trivial⟩,?_⟩
                refine (Ad9 (by kernel_rfl) (X9 ?_))
                refine J9 [(0,_),(2,_),(8,_),(13,_),(14,_),(15,_),(16,_),(90,_),(103,_)] [(0,_),(182,_),(501,_),(601,_)] ?_ ⟨rfl,rfl,rfl,rfl,rfl,rfl,rfl,rfl,rfl,trivial⟩ ⟨rfl,rfl,rfl,rfl,trivial⟩
                refine R9 (M9 rfl rfl (L9 rfl (Pn9 rfl rfl rfl (run_quo _ _ _ _ _ (by omega))) ?_))
                rw [show ((y.2.1:Nat):Int) / 2=((y.2.1 / 2:Nat):Int) by omega]
                refine (G9 rfl rfl (N9 (X_block (X9 ?_))))
                refine J9 [(0,_),(2,_),(8,_),(13,_),(14,_),(15,_),(16,_),(90,_),(103,_)] [(0,_),(182,_),(501,_),(601,_)] ?_ ⟨rfl,rfl,rfl,rfl,rfl,rfl,rfl,rfl,rfl,trivial⟩ ⟨rfl,rfl,rfl,rfl,trivial⟩
                refine R9 (M9 rfl rfl (L9 rfl (Pn9 rfl rfl rfl (run_add _ _ _ _ _ (by omega))) (G9 rfl rfl (N9 ?_))))
                exact Xr9 (y.1 + 1,y.2.1 / 2,_) (hy.odd hr1 he) (by show val pub 4 - (y.1 + 1) < val pub 4 - y.1; omega) (a9 rfl) (a9 rfl)
               exact An9
              exact An9
             exact An9
            exact An9
           exact An9
         ·
          have hr1:¬ 1 < y.2.1:=by have:=of_decide_eq_false hc90; omega
          have hroot:=hy.done hr1
          refine W_exit (X_then_exit (X_then_exit (X_block_exit (X9 ?_))))
          refine Q9 (Q9 ?_)
          refine J9 [(0,_),(2,_),(8,_),(13,_),(14,_),(15,_),(90,_)] [(0,_),(182,_),(501,_)] ?_ ⟨rfl,rfl,rfl,rfl,rfl,rfl,rfl,trivial⟩ ⟨rfl,rfl,rfl,trivial⟩
          refine W_draw (N:=6) (by kernel_rfl) rfl [(0,_),(182,_),(501,_)] ⟨rfl,rfl,rfl,trivial⟩ ?_
          refine (T9 0 rfl rfl (Pu_sliceArr rfl Try.runUnderlying29 Try.sizeOf5 rfl) (T9 1 rfl rfl (Pu_convBS (r:=182) rfl Try.underlying30 Try.underlying5 Try.underlying9 rfl rfl (fun _ h=>rdP_cast (blk_all h hyl) rfl hyl.symm)) (T9 2 rfl rfl (Pm9 rfl rfl) (T9 3 rfl rfl (Pu_slice (r:=0) (a:=24) (b:=pub.length) rfl Try.runUnderlying30 Try.sizeOf5 rfl rfl hp (.inr ⟨_,_,_,rfl,rfl,rfl⟩) (.inl ⟨rfl,rfl⟩) (by omega) (by omega)) (T9 4 rfl rfl (Pu_convBS (r:=0) rfl Try.underlying30 Try.underlying5 Try.underlying9 rfl rfl (fun h hq=>rdB_tail (hp h hq) (by omega))) (T9 5 rfl rfl (Pn9 rfl rfl rfl (run_strNe _ _ _ _ _)) (Ad9 (by kernel_rfl) (X9 ?_))))))))
          refine C9 rfl (fun hc129=>?_) (fun hc129=>?_)
          ·
           refine Q9 ?_
           refine J9 [(0,_),(2,_),(8,_),(13,_),(14,_),(15,_),(90,_),(129,_)] [(0,_),(182,_),(501,_)] ?_ ⟨rfl,rfl,rfl,rfl,rfl,rfl,rfl,rfl,trivial⟩ ⟨rfl,rfl,rfl,trivial⟩
           refine R9 (G9 rfl rfl (N9 (X9 ?_)))
           refine W_ret (X_then_ret ?_)
           exact Xq9 [] (Ps:=[]) (res1 Try.results32 rfl) rfl (by decide) ⟨by rw [checkT_at hgood hgs hok,if_neg (by rw [← hroot]; simpa using hc129)],rfl⟩
          ·
           refine K9 (X9 ?_)
           refine Q9 ?_
           refine J9 [(0,_),(2,_),(8,_),(13,_),(14,_),(15,_),(90,_),(129,_)] [(0,_),(182,_),(501,_)] ?_ ⟨rfl,rfl,rfl,rfl,rfl,rfl,rfl,rfl,trivial⟩ ⟨rfl,rfl,rfl,trivial⟩
           refine R9 (G9 rfl rfl (N9 (X9 ?_)))
           refine W_ret ?_
           exact Xq9 [] (Ps:=[]) (res1 Try.results32 rfl) rfl (by decide) ⟨by rw [checkT_at hgood hgs hok,if_pos (by rw [← hroot]; simpa using hc129)],rfl⟩
open Go.RowKit
def fulP (e:TypeId) (v:Value) (xs:List Value):HP:=fun h=>∃ g,v = .slice (some ⟨g,0,none⟩) xs.length xs.length∧h g=some (.cells xs.toArray e (0,0))
def frzP (e:TypeId) (v:Value) (xs:List Value):HP:=fun h=>∃ g,v = .slice (some ⟨g,0,none⟩) xs.length xs.length∧h g=some (.cells xs.toArray e (xs.length,xs.length + 1))
section
variable {P:Program} {E:Env} {n:Nat} {K:Slots} {L:Res} {o:Oper} {C:Value→Res→Prop}
theorem OpT_buildFull {t e len r:Nat} {ps:List (Nat × Operand)} {vs:List (Nat × Value)} (cs:List Value) {z:Value} (ho:o.op = .buildSlice t len ps.toArray) (hp:evP K ps=some vs) (hu:∀ w,(underlying t).run P w = .ok (.slice e) w) (hs:∀ w,(sizeOf e).run P w = .ok 1 w)
    (hz:∀ w,(zeroValue e).run P w = .ok z w) (hz1:z.cells = #[z]) (hlen:cs.length=len) (hsm:len≤1000) (hv:vs=(cs.zipIdx 0).map (fun p=>(p.2,p.1))) (h1:∀ u ∈ cs,u.cells = #[u]) (k:∀ v,C v ((r,fulP e v cs)::L)):OpT P E n o K L C:=fun a w Kc Q hA hS hK=>by
  have hb:=run_buildSlice_ones (P:=P) w hu hs cs z hz hz1 hlen hsm hv h1
  have hrun:(execOp a.eval o).run P w = .ok (.value (.slice (some ⟨w.heap.size,0,none⟩) len len)) (w.alloc (.cells cs.toArray e)):=by
    have hq:=evP_map hA hp
    have:(ps.toArray.map fun (i,x)=>(i,a.eval x))=vs.toArray:=by simp [← hq]
    simp only [execOp,ho,this,Sem.run_bind,hb]; rfl
  unfold Oper.wp
  rw [hrun]
  refine hK _ _ _ (k _) ?_
  have hS2:=hS.blk r e cs.toArray
  have hS3:=hS2.cons (P':=fulP e (.slice (some ⟨w.heap.size,0,none⟩) len len) cs) (look_same r _ L) (fun h hb=>by
    refine ⟨_,by rw [hlen],?_⟩
    unfold Proofs.Ytinamipkpdlphaa.blk at hb
    simpa using hb)
  exact hS3.sub (fun r' P' h=>by
    by_cases hr:r=r'
    · subst hr; rw [look_same] at h ⊢; exact h
    · rw [look_other hr] at h; rw [look_other hr,look_other hr]; exact h)
theorem run_conv_frz (w:World) {t e g m:Nat} {C:Array Value} (ht:P.underlying t=some (.slice e)) (he:P.underlying e=some (.int .u8)) (hg:w.heap[g]?=some (.cells C e (0,0))) :
    ∃ w',(convert t t (.slice (some ⟨g,0,none⟩) m m)).run P w = .ok (.slice (some ⟨g,0,none⟩) m m) w'∧Chg [g] w w'∧w'.heap[g]?=some (.cells C e (C.size,C.size + 1)):=by
  have hsh:w.shape? g=some (e,C.size):=by unfold World.shape?; rw [hg]
  refine ⟨w.freeze ⟨g,C.size,none⟩ 1,?_,?_,?_⟩
  · simp [convert,run_underlying ht,run_underlying he,markStringish,hsh]
  · refine ⟨?_,?_,?_,?_,fun j hj hn=>?_⟩
    · unfold World.freeze; split <;> rfl
    · unfold World.freeze; split <;> rfl
    · unfold World.freeze; split <;> rfl
    · unfold World.freeze; split <;> simp
    · unfold World.freeze
      rw [if_neg (by decide)]
      have:g≠j:=fun h=>hn (by simp [h])
      simp [Array.getElem?_modify,this]
  · unfold World.freeze
    rw [if_neg (by decide)]
    simp [Array.getElem?_modify,hg]
theorem OpT_convFrz {t e r:Nat} {x:Operand} {v:Value} {xs:List Value} (ho:o.op = .convert t t x) (ht:P.underlying t=some (.slice e)) (he:P.underlying e=some (.int .u8)) (hx:evK K x=some v) (hr:look L r=some (fulP e v xs)) (k:C v ((r,frzP e v xs)::L)):OpT P E n o K L C:=fun a w Kc Q hA hS hK=>by
  obtain ⟨h,⟨g,hv,hg⟩,hi⟩:=hS.read hr
  obtain ⟨w',hrun,hc,hg'⟩:=run_conv_frz (P:=P) w (m:=xs.length) ht he (hi g _ hg)
  subst hv
  unfold Oper.wp execOp
  simp only [ho,hA.eval hx,Sem.run_bind,hrun,Result.andThen_ok,Sem.run_pure]
  refine hK _ _ _ k (hS.step hr fun h hp hin=>?_)
  obtain ⟨g2,hv2,hg2⟩:=hp
  injection hv2 with hv2
  injection hv2 with hv2
  injection hv2 with hv2
  subst hv2
  refine ⟨[g],fun j=>if j=g then some (.cells xs.toArray e (xs.length,xs.length + 1)) else none,?_,hc,⟨g,rfl,by simp⟩,fun j o hj=>?_,fun j hj=>?_⟩
  · intro j hj
    simp at hj
    subst hj
    simp [hg2]
  · by_cases hjg:j=g
    · subst hjg
      simp at hj
      subst hj
      simpa using hg'
    · simp [hjg] at hj
  · by_cases hjg:j=g
    · subst hjg; left; simp [hg2]
    · simp [hjg] at hj
theorem OpT_appendFrz {t r r2 m e bytes:Nat} {x y:Operand} {v vy:Value} {xs news:List Value} {P2:HP} {i:TypeInfo} {z:Value}
    (ho:o.op = .call { callee:=.builtin .append,args:=#[x,y],argTypes:=#[t,t] }) (ht:P.underlying t=some (.slice e)) (hi:P.info? e=some i) (hz:i.zero=some z)
    (hsize:i.size=1) (hby:i.bytes=bytes) (hzs:z.cells.size=1) (hx:evK K x=some v) (hy:evK K y=some vy) (hr:look L r=some (frzP e v xs))
    (hr2:look L r2=some P2) (hrd:∀ h,P2 h→rdP 1 vy m news h) (h1:∀ u ∈ news,u.oneCell'=true) (ho1:∀ u ∈ xs,u.oneCell'=true) (hm:0 < m) (h63:xs.length + m≤maxLen) (hbytes:(xs.length + m) * bytes≤140737488355328)
    (k:∀ v',C v' ((r,rowP e 1 v' (xs.length + m) (xs++news))::L)):OpT P E n o K L C:=fun a w Kc Q hA hS hK=>by
  obtain ⟨h2,q1,q2⟩:=hS.read hr2
  obtain ⟨hl,A,c,rfl,hmc,h0,hrdc⟩:=hrd h2 q1
  rw [Nat.mul_one] at hl
  obtain ⟨h3,⟨g,rfl,hg⟩,q4⟩:=hS.read hr
  obtain ⟨ad,rfl⟩:∃ ad,A=some ad:=by
    cases A with
    | none=>have:=h0 rfl; omega
    | some ad=>exact ⟨ad,rfl⟩
  have hsrc:Src P i.size t (.slice (some ad) m c) m news w:=by
    rw [hsize]
    exact Src.ofSlice w ht ad m c news (by omega) (fun j u hu=>cellH_in q2 (hrdc ad rfl j u hu)) h1
  have hold:(Builtin.firstCells i.size xs.length (.slice (some ⟨g,0,none⟩) xs.length xs.length)).run P w.drew = .ok xs.toArray w.drew:=by
    rw [hsize]
    have:=run_loadCells_list (P:=P) w.drew ⟨g,0,none⟩ xs (fun j u hu=>by
      have hh:w.heap[g]?=some (.cells xs.toArray e (xs.length,xs.length + 1)):=q4 _ _ hg
      rw [addr_add0]
      show w.drew.cell? ⟨g,j,none⟩=some u
      have:w.drew.heap[g]?=some (.cells xs.toArray e (xs.length,xs.length + 1)):=hh
      simp only [World.cell?,this]
      simpa using hu)
    simpa [Builtin.firstCells] using this
  have hnx:Builtin.nextslicecap (xs.length + m) xs.length * i.bytes≤281474976710656:=by
    rw [hby]
    have:=nextslicecap_le (need:=xs.length + m) (old:=xs.length) (by omega)
    have h2:=Nat.mul_le_mul_right bytes this
    rw [Nat.mul_assoc] at h2
    omega
  have hrun:=run_append_grow_src (P:=P) (w:=w) t t o.type e i z ht hi hz (some ⟨g,0,none⟩) xs.length xs.length xs hold (.slice (some ad) m c) m news hsrc (by omega) (by unfold maxLen at h63; omega) hnx
  unfold Oper.wp execOp
  simp only [ho,resolve,invoke,builtin,Sem.run_bind,Sem.run_pure,Result.andThen_ok,List.map_toArray,List.map_cons,List.map_nil,hA.eval hx,hA.eval hy,hrun]
  have hge:=grownCap_ge w (xs.length + m) xs.length e
  have hcm:grownCap w (xs.length + m) xs.length e≤maxLen:=grownCap_le_maxLen w (xs.length + m) xs.length e h63
  have hlen:(xs++news).length=xs.length + m:=by simp [hl]
  refine hK _ _ _ (k _) (hS.step hr fun h hp hin=>?_)
  refine ⟨[],fun j=>if j=w.heap.size then some (.cells ((xs++news).toArray++Builtin.zeroCells z.cells (grownCap w (xs.length + m) xs.length e - (xs.length + m))) e (0,0)) else none,by simp,((Chg.refl [] w).drew).alloc _,?_,fun j o hj=>?_,fun j hj=>?_⟩
  · refine ⟨by simp [hl],.inr ⟨w.heap.size,_,_,rfl,if_pos rfl,hge,hcm,?_,?_⟩⟩
    · simp only [Array.size_append,List.size_toArray,size_zeroCells,hzs,hlen]
      omega
    · simp only [Array.toList_append,Nat.mul_one]
      rw [← hlen]
      exact List.take_left
  · by_cases hjg:j=w.heap.size
    · subst hjg
      simp at hj
      subst hj
      have:=heap_alloc_new w.drew (.cells ((xs++news).toArray++Builtin.zeroCells z.cells (grownCap w (xs.length + m) xs.length e - (xs.length + m))) e)
      simpa using this
    · simp [hjg] at hj
  · by_cases hjg:j=w.heap.size
    · subst hjg; right; exact Nat.le_refl _
    · simp [hjg] at hj
end
open Go.RowKit
theorem at0_append_left {a b:List UInt8} {k:Nat} (h:k < a.length):at0 (a++b) k=at0 a k:=by simp [at0,List.getElem?_append_left h]
theorem val_append {a b:List UInt8}:∀ k,k≤a.length→val (a++b) k=val a k
  | 0,_=>rfl
  | k + 1,h=>by rw [val,val,val_append k (by omega),at0_append_left (by omega)]
theorem val_num (s:Int) (h0:0≤s) (h1:s < 4294967296):(val (numB s 4) 4:Int)=s:=by
  rw [numB_four,val_four]
  have e:∀ k:Nat,s.fdiv (2 ^ k)=s / 2 ^ k:=fun k=>Int.fdiv_eq_ediv_of_nonneg _ (by apply Int.pow_nonneg; omega)
  have e24:=byte_toNat (s.fdiv (2 ^ 24))
  have e16:=byte_toNat (s.fdiv (2 ^ 16))
  have e8:=byte_toNat (s.fdiv (2 ^ 8))
  have e0:=byte_toNat s
  rw [e,show (2:Int) ^ 24=16777216 from by decide] at e24
  rw [e,show (2:Int) ^ 16=65536 from by decide] at e16
  rw [e,show (2:Int) ^ 8=256 from by decide] at e8
  show (((byte (s.fdiv (2 ^ 24))).toNat * 2 ^ 24 + (byte (s.fdiv (2 ^ 16))).toNat * 2 ^ 16 + (byte (s.fdiv (2 ^ 8))).toNat * 2 ^ 8 + (byte s).toNat:Nat):Int)=s
  rw [e,e,e,show (2:Int) ^ 24=16777216 from by decide,show (2:Int) ^ 16=65536 from by decide,show (2:Int) ^ 8=256 from by decide]
  omega
theorem pRoot_ok {x:List UInt8} (hp:pRootE x=0):95≤x.length∧pRootBad x=false∧x.length=95 + val (x.drop 93) 2:=by
  unfold pRootE at hp
  split at hp
  · cases hp
  · split at hp
    · cases hp
    · rename_i h2
      split at hp
      · cases hp
      · split at hp
        · cases hp
        · exact ⟨by omega,by simpa using h2,by omega⟩
theorem val_num2 (s:Int) (h0:0≤s) (h1:s < 65536):(val (numB s 2) 2:Int)=s:=by
  rw [numB_two]
  have e8:=byte_toNat (s.fdiv (2 ^ 8))
  have e0:=byte_toNat s
  have e:s.fdiv (2 ^ 8)=s / 2 ^ 8:=Int.fdiv_eq_ediv_of_nonneg _ (by decide)
  rw [e,show (2:Int) ^ 8=256 from by decide] at e8
  show (((0 * 2 ^ 8 + (byte (s.fdiv (2 ^ 8))).toNat) * 2 ^ 8 + (byte s).toNat:Nat):Int)=s
  rw [e,show (2:Int) ^ 8=256 from by decide]
  omega
theorem root_length {pl:List UInt8} {ver:Int} {top tl:List UInt8} (hp:pl.length=56) (ht:top.length=32):(rootLs pl ver top tl).flatten.length=95 + tl.length:=by
  simp [rootLs,numB_length,hp,ht]
  omega
theorem parse_root {pl:List UInt8} {ver:Int} {top tl:List UInt8} (hp:pl.length=56) (hv:1≤ver∧ver≤2147483647) (ht:top.length=32) (hl:tl.length≤5000) :
    pRootE (rootLs pl ver top tl).flatten=0∧pRoot (rootLs pl ver top tl).flatten=⟨pl,ver,top,tl⟩:=by
  have hL:=root_length (ver:=ver) (tl:=tl) hp ht
  have hF:(rootLs pl ver top tl).flatten=[114]++(pl++(numB ver 4++(top++(numB tl.length 2++tl)))):=by simp [rootLs]
  have d57:(rootLs pl ver top tl).flatten.drop 57=numB ver 4++(top++(numB tl.length 2++tl)):=by
    rw [hF,show 57=1 + 56 from rfl,← List.drop_drop,← hp]
    simp
  have d61:(rootLs pl ver top tl).flatten.drop 61=top++(numB tl.length 2++tl):=by
    rw [show 61=57 + 4 from rfl,← List.drop_drop,d57]
    exact List.drop_left' (numB_length _ _)
  have d93:(rootLs pl ver top tl).flatten.drop 93=numB tl.length 2++tl:=by
    rw [show 93=61 + 32 from rfl,← List.drop_drop,d61,← ht,List.drop_left]
  have d95:(rootLs pl ver top tl).flatten.drop 95=tl:=by
    rw [show 95=93 + 2 from rfl,← List.drop_drop,d93]
    exact List.drop_left' (numB_length _ _)
  have v4:(val ((rootLs pl ver top tl).flatten.drop 57) 4:Int)=ver:=by
    rw [d57,val_append 4 (by rw [numB_length]; omega),val_num ver (by omega) (by omega)]
  have v2:(val ((rootLs pl ver top tl).flatten.drop 93) 2:Int)=tl.length:=by
    rw [d93,val_append 2 (by rw [numB_length]; omega),val_num2 _ (by omega) (by omega)]
  have hB:pRootBad (rootLs pl ver top tl).flatten=false:=by
    unfold pRootBad
    have:at0 (rootLs pl ver top tl).flatten 0=114:=by rw [hF]; rfl
    rw [v4,v2,this]
    simp
    omega
  have hE:pRootE (rootLs pl ver top tl).flatten=0:=by
    rw [pRootE_later (by omega) hB,if_neg (by omega),if_neg (by omega)]
  refine ⟨hE,?_⟩
  unfold pRoot
  rw [if_pos hE,v4,d95,d61]
  congr 1
  · rw [hF]
    simp [← hp]
  · rw [← ht]
    simp
theorem pRoot_top (b:List UInt8):(pRoot b).top.length=32:=by
  unfold pRoot
  split
  · rename_i h
    have:=(pRoot_ok h).1
    simp
    omega
  · rfl

theorem val_two2 (l:List UInt8) (a:Nat):val (l.drop a) 2=(at0 l a).toNat * 2 ^ 8 + (at0 l (a + 1)).toNat:=by
  have h0:=at0_off l a 0
  have h1:=at0_off l a 1
  show (0 * 2 ^ 8 + (at0 (l.drop a) 0).toNat) * 2 ^ 8 + (at0 (l.drop a) 1).toNat=_
  rw [h0,h1,Nat.zero_mul,Nat.zero_add]
  rfl
def latB:List UInt8:=[108,97,116,116,105,99,101]
def claimL (ver:Int) (node:List UInt8):List UInt8:=latB++numB ver 4++node
theorem claimL_length {ver:Int} {node:List UInt8} (h:node.length=32):(claimL ver node).length=43:=by unfold claimL; rw [List.length_append,List.length_append,numB_length,h]; rfl
open Go.RowKit
set_option maxRecDepth 8000

theorem four9_frz (v:Value) (n:Int) (F:HP):CallsS Try.prog 35 #[v,.int .i64 n] F [frzP 5 v (bs latB)] (fun r Ps=>Ps=[rowB 5 r (latB++numB n 4)]):=by
 refine callsS_enter Try.func35 rfl Try.ntmps35 (by simp) (fun E=>?_)
 refine Q9 (R9 (G9 rfl rfl (N9 (X9 (Q9 (R9 (M9 rfl rfl (M9 rfl rfl (L9 rfl (Pn9 rfl rfl rfl (run_shr _ 24 _ _ _ (by omega))) (L9 rfl (Pu_conv rfl rfl (conv_byte _ _ Try.runUnderlying3 Try.runUnderlying5)) (M9 rfl rfl (L9 rfl (Pn9 rfl rfl rfl (run_shr _ 16 _ _ _ (by omega))) (L9 rfl (Pu_conv rfl rfl (conv_byte _ _ Try.runUnderlying3 Try.runUnderlying5)) (M9 rfl rfl (L9 rfl (Pn9 rfl rfl rfl (run_shr _ 8 _ _ _ (by omega))) (L9 rfl (Pu_conv rfl rfl (conv_byte _ _ Try.runUnderlying3 Try.runUnderlying5)) (M9 rfl rfl (L9 rfl (Pu_conv rfl rfl (conv_byte _ _ Try.runUnderlying3 Try.runUnderlying5)) (Lc9 rfl rfl (by decide) (OpT_buildOnes (r:=101) (bs (numB n 4)) rfl rfl Try.runUnderlying30 Try.sizeOf5 Try.zeroValue5 rfl rfl (by decide) (by rw [numB_four]; rfl) (bs_cells _) (fun v17=>(Lc9 rfl rfl (by decide) (OpT_appendFrz (r:=1) (r2:=101) (xs:=bs latB) (m:=4) rfl Try.underlying30 TI.hi5 TI.hz5 TI.hs5 TI.hby5 TI.hzs5 rfl rfl rfl rfl (fun _ h=>rp9 h) (bs_one _) (bs_one _) (by omega) (by unfold maxLen; rw [bs_length]; show 7 + _≤_; omega) (by rw [bs_length]; show (7 + _) * 1≤_; omega) (fun v18=>?_))))))))))))))))))))))))
 refine (G9 rfl rfl (N9 (X9 ?_)))
 refine W_ret ?_
 exact Xq9 [1] (Ps:=[_]) (res1 Try.results35 rfl) rfl (by decide) (congrArg (·::[]) (rowB_of _ (by rw [List.length_append,numB_length,bs_length]) (by rw [bs_append])))
theorem claim9_spec (ver:Int) (node:List UInt8) (hn:node.length=32) (F:HP):CallsS Try.prog 19 #[.int .i64 ver,idV node] F [] (fun r Ps=>Ps=[rowB 5 r (claimL ver node)]):=by
 refine callsS_enter Try.func19 rfl Try.ntmps19 (by simp) (fun E=>?_)
 refine Q9 (R9 (Lc9 rfl rfl (by decide) (OpT_box (r:=101) rfl rfl rfl (fun g101=>(G9 rfl rfl (N9 (X9 (Q9 ?_))))))))
 refine W_draw (N:=7) (by kernel_rfl) rfl [(0,_),(101,_)] ⟨rfl,rfl,trivial⟩ ?_
 refine (T9 2 rfl rfl (Pm9 rfl rfl) (T9 4 rfl rfl (Pu_sliceArr rfl Try.runUnderlying29 Try.sizeOf5 rfl) (Y9 [0] ?_)))
 refine Z9 rfl rfl (OpT_buildFull (r:=185) (bs latB) rfl rfl Try.runUnderlying30 Try.sizeOf5 Try.zeroValue5 rfl rfl (by decide) rfl (bs_cells _) (fun v5=>?_)) ?_
 ·
  refine ⟨⟨rfl,rfl,trivial⟩,?_⟩
  skip
  refine (Y9 [1] ?_)
  refine Z9 rfl rfl (OpT_convFrz (r:=185) rfl Try.underlying30 Try.underlying5 rfl rfl ?_) ?_
  ·
   refine ⟨⟨rfl,rfl,trivial⟩,?_⟩
   refine (Y9 [3] ?_)
   refine Z9 rfl rfl (Oc9 200 [0,101] [185] rfl Try.call35 rfl rfl rfl (by decide) (by decide) (four9_frz _ ver _) (fun v8 Ps8 hR8=>?_)) ?_
   ·
    subst hR8
    refine ⟨⟨rfl,rfl,trivial⟩,?_⟩
    refine (Y9 [5] ?_)
    refine Z9 rfl rfl (Oa9 (r:=200) (r2:=101) rfl Try.underlying30 TI.hi5 TI.hz5 TI.hs5 TI.hby5 TI.hzs5 (by decide) rfl rfl rfl rfl (fun _ h=>blk_all h hn) (bs_one _) (by unfold maxLen; simp [numB_length,latB]) (by simp [numB_length,latB]) (fun v10=>?_)) ?_
    ·
     refine ⟨⟨rfl,rfl,trivial⟩,?_⟩
     refine AH_turn (P':=rowB 5 v10 (claimL ver node)) 200 rfl (fun h hp=>rowB_mk hp (by unfold claimL; simp [numB_length,latB,hn]) (by unfold claimL; rw [bs_append (latB++numB ver 4)])) ?_
     refine (T9 6 rfl rfl (Pg9 rfl rfl) (Ad9 (by kernel_rfl) (X9 ?_)))
     refine W_ret ?_
     exact Xq9 [200] (Ps:=[_]) (res1 Try.results19 rfl) rfl (by decide) rfl
    exact An9
   exact An9
  exact An9
 exact An9
theorem claim_spec (ver:Int) (node:List UInt8) (hn:node.length=32) (F:HP):CallsS Try.prog 22 #[.int .i64 ver,idV node] F [] (fun r Ps=>Ps=[rowB 5 r (claimL ver node)]):=by
 refine callsS_enter Try.func22 rfl Try.ntmps22 (by simp) (fun E=>?_)
 refine Q9 (R9 (Lc9 rfl rfl (by decide) (OpT_box (r:=101) rfl rfl rfl (fun g101=>(G9 rfl rfl (N9 (X9 (Q9 ?_))))))))
 refine W_draw (N:=8) (by kernel_rfl) rfl [(0,_),(101,_)] ⟨rfl,rfl,trivial⟩ ?_
 refine (T9 2 rfl rfl (Pm9 rfl rfl) (T9 5 rfl rfl (Pu_sliceArr rfl Try.runUnderlying29 Try.sizeOf5 rfl) (Y9 [0,3] ?_)))
 refine Z9 rfl rfl (OpT_buildFull (r:=185) (bs latB) rfl rfl Try.runUnderlying30 Try.sizeOf5 Try.zeroValue5 rfl rfl (by decide) rfl (bs_cells _) (fun v5=>?_)) ?_
 ·
  refine ⟨⟨rfl,rfl,trivial⟩,?_⟩
  skip
  refine (Y9 [1,3] ?_)
  refine Z9 rfl rfl (OpT_convFrz (r:=185) rfl Try.underlying30 Try.underlying5 rfl rfl ?_) ?_
  ·
   refine ⟨⟨rfl,rfl,trivial⟩,?_⟩
   refine (Y9 [3] ?_)
   refine Z9 rfl rfl (Oc9 200 [0,101,185] [] rfl Try.call43 rfl rfl rfl (by decide) (by decide) (number_spec ver 4 (by omega) _) (fun v8 Ps8 hR8=>?_)) ?_
   ·
    subst hR8
    refine ⟨⟨rfl,rfl,trivial⟩,?_⟩
    refine (Y9 [4] ?_)
    refine Z9 rfl rfl (OpT_appendFrz (r:=185) (r2:=200) (xs:=bs latB) (m:=4) rfl Try.underlying30 TI.hi5 TI.hz5 TI.hs5 TI.hby5 TI.hzs5 rfl rfl rfl rfl (fun _ h=>rp9 h) (bs_one _) (bs_one _) (by omega) (by unfold maxLen; rw [bs_length]; show 7 + _≤_; omega) (by rw [bs_length]; show (7 + _) * 1≤_; omega) (fun v9=>?_)) ?_
    ·
     refine ⟨⟨rfl,rfl,trivial⟩,?_⟩
     refine AH_turn (P':=rowB 5 v9 (latB++numB ver 4)) 185 rfl (fun h hp=>rowB_mk hp (by rw [List.length_append,numB_length,bs_length]) (by rw [bs_append])) ?_
     refine (Y9 [6] ?_)
     refine Z9 rfl rfl (Oa9 (r:=185) (r2:=101) rfl Try.underlying30 TI.hi5 TI.hz5 TI.hs5 TI.hby5 TI.hzs5 (by decide) rfl rfl rfl rfl (fun _ h=>blk_all h hn) (bs_one _) (by unfold maxLen; simp [numB_length,latB]) (by simp [numB_length,latB]) (fun v11=>?_)) ?_
     ·
      refine ⟨⟨rfl,rfl,trivial⟩,?_⟩
      refine AH_turn (P':=rowB 5 v11 (claimL ver node)) 185 rfl (fun h hp=>rowB_mk hp (by unfold claimL; simp [numB_length,latB,hn]) (by unfold claimL; rw [bs_append (latB++numB ver 4)])) ?_
      refine (T9 7 rfl rfl (Pg9 rfl rfl) (Ad9 (by kernel_rfl) (X9 ?_)))
      refine W_ret ?_
      exact Xq9 [185] (Ps:=[_]) (res1 Try.results22 rfl) rfl (by decide) rfl
     exact An9
    exact An9
   exact An9
  refine Z9 rfl rfl (Oc9 200 [0,101,185] [] rfl Try.call43 rfl rfl rfl (by decide) (by decide) (number_spec ver 4 (by omega) _) (fun v8 Ps8 hR8=>?_)) ?_
  ·
   subst hR8
   refine ⟨⟨rfl,rfl,trivial⟩,?_⟩
   refine (Y9 [1] ?_)
   refine Z9 rfl rfl (OpT_convFrz (r:=185) rfl Try.underlying30 Try.underlying5 rfl rfl ?_) ?_
   ·
    refine ⟨⟨rfl,rfl,trivial⟩,?_⟩
    refine (Y9 [4] ?_)
    refine Z9 rfl rfl (OpT_appendFrz (r:=185) (r2:=200) (xs:=bs latB) (m:=4) rfl Try.underlying30 TI.hi5 TI.hz5 TI.hs5 TI.hby5 TI.hzs5 rfl rfl rfl rfl (fun _ h=>rp9 h) (bs_one _) (bs_one _) (by omega) (by unfold maxLen; rw [bs_length]; show 7 + _≤_; omega) (by rw [bs_length]; show (7 + _) * 1≤_; omega) (fun v9=>?_)) ?_
    ·
     refine ⟨⟨rfl,rfl,trivial⟩,?_⟩
     refine AH_turn (P':=rowB 5 v9 (latB++numB ver 4)) 185 rfl (fun h hp=>rowB_mk hp (by rw [List.length_append,numB_length,bs_length]) (by rw [bs_append])) ?_
     refine (Y9 [6] ?_)
     refine Z9 rfl rfl (Oa9 (r:=185) (r2:=101) rfl Try.underlying30 TI.hi5 TI.hz5 TI.hs5 TI.hby5 TI.hzs5 (by decide) rfl rfl rfl rfl (fun _ h=>blk_all h hn) (bs_one _) (by unfold maxLen; simp [numB_length,latB]) (by simp [numB_length,latB]) (fun v11=>?_)) ?_
     ·
      refine ⟨⟨rfl,rfl,trivial⟩,?_⟩
      refine AH_turn (P':=rowB 5 v11 (claimL ver node)) 185 rfl (fun h hp=>rowB_mk hp (by unfold claimL; simp [numB_length,latB,hn]) (by unfold claimL; rw [bs_append (latB++numB ver 4)])) ?_
      refine (T9 7 rfl rfl (Pg9 rfl rfl) (Ad9 (by kernel_rfl) (X9 ?_)))
      refine W_ret ?_
      exact Xq9 [185] (Ps:=[_]) (res1 Try.results22 rfl) rfl (by decide) rfl
     exact An9
    exact An9
   exact An9
  exact An9
 refine Z9 rfl rfl (Oc9 200 [0,101] [] rfl Try.call43 rfl rfl rfl (by decide) (by decide) (number_spec ver 4 (by omega) _) (fun v8 Ps8 hR8=>?_)) ?_
 ·
  subst hR8
  refine ⟨⟨rfl,rfl,trivial⟩,?_⟩
  refine (Y9 [0] ?_)
  refine Z9 rfl rfl (OpT_buildFull (r:=185) (bs latB) rfl rfl Try.runUnderlying30 Try.sizeOf5 Try.zeroValue5 rfl rfl (by decide) rfl (bs_cells _) (fun v5=>?_)) ?_
  ·
   refine ⟨⟨rfl,rfl,trivial⟩,?_⟩
   skip
   refine (Y9 [1] ?_)
   refine Z9 rfl rfl (OpT_convFrz (r:=185) rfl Try.underlying30 Try.underlying5 rfl rfl ?_) ?_
   ·
    refine ⟨⟨rfl,rfl,trivial⟩,?_⟩
    refine (Y9 [4] ?_)
    refine Z9 rfl rfl (OpT_appendFrz (r:=185) (r2:=200) (xs:=bs latB) (m:=4) rfl Try.underlying30 TI.hi5 TI.hz5 TI.hs5 TI.hby5 TI.hzs5 rfl rfl rfl rfl (fun _ h=>rp9 h) (bs_one _) (bs_one _) (by omega) (by unfold maxLen; rw [bs_length]; show 7 + _≤_; omega) (by rw [bs_length]; show (7 + _) * 1≤_; omega) (fun v9=>?_)) ?_
    ·
     refine ⟨⟨rfl,rfl,trivial⟩,?_⟩
     refine AH_turn (P':=rowB 5 v9 (latB++numB ver 4)) 185 rfl (fun h hp=>rowB_mk hp (by rw [List.length_append,numB_length,bs_length]) (by rw [bs_append])) ?_
     refine (Y9 [6] ?_)
     refine Z9 rfl rfl (Oa9 (r:=185) (r2:=101) rfl Try.underlying30 TI.hi5 TI.hz5 TI.hs5 TI.hby5 TI.hzs5 (by decide) rfl rfl rfl rfl (fun _ h=>blk_all h hn) (bs_one _) (by unfold maxLen; simp [numB_length,latB]) (by simp [numB_length,latB]) (fun v11=>?_)) ?_
     ·
      refine ⟨⟨rfl,rfl,trivial⟩,?_⟩
      refine AH_turn (P':=rowB 5 v11 (claimL ver node)) 185 rfl (fun h hp=>rowB_mk hp (by unfold claimL; simp [numB_length,latB,hn]) (by unfold claimL; rw [bs_append (latB++numB ver 4)])) ?_
      refine (T9 7 rfl rfl (Pg9 rfl rfl) (Ad9 (by kernel_rfl) (X9 ?_)))
      refine W_ret ?_
      exact Xq9 [185] (Ps:=[_]) (res1 Try.results22 rfl) rfl (by decide) rfl
     exact An9
    exact An9
   exact An9
  exact An9
 exact An9
theorem right13_spec (pv:Value) (pl:List UInt8) (ver:Int) (top:List UInt8) (ht:top.length=32) (tv:Value) (tl:List UInt8) (F:HP) (hFp:∀ h,F h→rdB pv pl h) (hFt:∀ h,F h→rdB tv tl h):CallsS Try.prog 13 #[rootV pv ver top tv] F [] (fun r Ps=>r = .int .i64 (checkT pl (claimL ver top) tl)∧Ps=[]):=by
 refine callsS_enter Try.func13 rfl Try.ntmps13 (by simp) (fun E=>?_)
 refine Q9 (R9 (Lc9 rfl rfl (by decide) (OpT_box (r:=101) rfl rfl rfl (fun g101=>(G9 rfl rfl (N9 (X9 (Q9 ?_))))))))
 refine W_draw (N:=11) (by kernel_rfl) rfl [(0,_),(101,_)] ⟨rfl,rfl,trivial⟩ ?_
 refine (T9 0 rfl rfl (F9 0 rfl rfl) (T9 1 rfl rfl (Pb9 (r:=101) rfl Try.isAgg30 rfl rfl rfl) (T9 2 rfl rfl (F9 1 rfl rfl) (T9 3 rfl rfl (Pb9 (r:=101) rfl Try.isAgg3 rfl rfl rfl) (T9 4 rfl rfl (F9 2 rfl rfl) (T9 5 rfl rfl (Px9 (r:=101) rfl Try.isAgg29 Try.sizeOf29 rfl rfl ((bs_length _).trans ht) (take_rtop ht)) (T9 7 rfl rfl (F9 34 rfl rfl) (T9 8 rfl rfl (Pb9 (r:=101) rfl Try.isAgg30 rfl rfl (root_tail ht)) (Y9 [6] ?_)))))))))
 refine Z9 rfl rfl (Oc9 200 [0,101] [] rfl Try.call19 rfl rfl rfl (by decide) (by decide) (claim9_spec ver top ht _) (fun v9 Ps9 hR9=>?_)) ?_
 ·
  subst hR9
  refine ⟨⟨rfl,rfl,trivial⟩,?_⟩
  refine (Y9 [9] ?_)
  refine Z9 rfl rfl (Oc9 300 [0,101,200] [] rfl Try.call32 rfl rfl rfl (by decide) (by decide) (check6_spec pv _ tv pl (claimL ver top) tl (by rw [claimL_length ht]; omega) _ (rs9 0 rfl hFp) (rs9 2 rfl rowB_rd) (rs9 0 rfl hFt)) (fun v12 Ps12 hR12=>?_)) ?_
  ·
   obtain ⟨rfl,rfl⟩:=hR12
   refine ⟨⟨rfl,rfl,trivial⟩,?_⟩
   refine (T9 10 rfl rfl (Pg9 rfl rfl) (Ad9 (by kernel_rfl) (X9 ?_)))
   refine W_ret ?_
   exact Xq9 [] (Ps:=[]) (res1 Try.results13 rfl) rfl (by decide) ⟨rfl,rfl⟩
  exact An9
 exact An9
open Go.RowKit
set_option maxRecDepth 8000

theorem root9_spec (pv:Value) (pl:List UInt8) (ver:Int) (top:List UInt8) (ht:top.length=32) (tv:Value) (tl:List UInt8) (hpl:pl.length≤1000000) (htl:tl.length≤1000000) (F:HP) (hFp:∀ h,F h→rdB pv pl h) (hFt:∀ h,F h→rdB tv tl h):CallsS Try.prog 15 #[rootV pv ver top tv] F [] (fun r Ps=>∃ v',r = .tuple #[v',.int .i64 (rootE pl ver tl)]∧Ps=[rowB 5 v' (rootR pl ver top tl)]):=by
 refine callsS_enter Try.func15 rfl Try.ntmps15 (by simp) (fun E=>?_)
 refine Q9 (R9 (Lc9 rfl rfl (by decide) (OpT_box (r:=101) rfl rfl rfl (fun g101=>(G9 rfl rfl (G9 rfl rfl (N9 (X9 (Q9 (Q9 (R9 (L9 rfl (F9 0 rfl rfl) (L9 rfl (Pb9 (r:=101) rfl Try.isAgg30 rfl rfl rfl) (L9 rfl (Pl9 (r:=0) rfl Try.runUnderlying30 rfl rfl hFp) (L9 rfl (Pn9 rfl rfl rfl (run_neq _ _ _ _ _ _)) (M9 rfl rfl (Lg9 rfl rfl rfl rfl (by decide) (fun hb=>(F9 1 rfl rfl)) (Lg9 rfl rfl rfl rfl (by decide) (fun hb=>(Pb9 (r:=101) rfl Try.isAgg3 (ev_gv rfl hb) rfl rfl)) (Lg9 rfl rfl rfl rfl (by decide) (fun hb=>(Pn9 rfl (ev_gv rfl hb) rfl (run_lss _ _ _ _ _ _))) (L9 rfl (Pu_or rfl rfl rfl) (M9 rfl rfl (Lg9 rfl rfl rfl rfl (by decide) (fun hb=>(F9 1 rfl rfl)) (Lg9 rfl rfl rfl rfl (by decide) (fun hb=>(Pb9 (r:=101) rfl Try.isAgg3 (ev_gv rfl hb) rfl rfl)) (Lg9 rfl rfl rfl rfl (by decide) (fun hb=>(Pn9 rfl (ev_gv rfl hb) rfl (run_gtr _ _ _ _ _ _))) (L9 rfl (Pu_or rfl rfl rfl) (N9 (X9 ?_)))))))))))))))))))))))))))
 refine C9 rfl (fun hc18=>?_) (fun hc18=>?_)
 ·
  have hE1:=rootE_bad (tl:=tl) hc18
  have hR0:rootR pl ver top tl=[]:=by unfold rootR; rw [hE1]; rfl
  refine Q9 ?_
  refine W_nilRow 185 5 1 ?_
  refine R9 (G9 rfl rfl (G9 rfl rfl (N9 (X9 ?_))))
  refine W_ret (X_then_ret ?_)
  exact Xq9 [185] (Ps:=[_]) (res2 Try.results15 rfl rfl) rfl (by decide) ⟨_,by rw [hE1],by rw [hR0]; rfl⟩
 ·
  have hE0:=rootE_good (tl:=tl) hc18
  have hp56:pl.length=56:=by simp at hc18; omega
  refine K9 (X9 ?_)
  refine Q9 (Q9 (R9 (L9 rfl (F9 34 rfl rfl) (L9 rfl (Pb9 (r:=101) rfl Try.isAgg30 rfl rfl (root_tail ht)) (L9 rfl (Pl9 (r:=0) rfl Try.runUnderlying30 rfl rfl hFt) (L9 rfl (Pn9 rfl rfl rfl (run_gtr _ _ _ _ _ _)) (N9 (X9 ?_))))))))
  refine C9 rfl (fun hc22=>?_) (fun hc22=>?_)
  ·
   have hbig:=of_decide_eq_true hc22
   rw [if_pos (by omega)] at hE0
   have hR0:rootR pl ver top tl=[]:=by unfold rootR; rw [hE0]; rfl
   refine Q9 ?_
   refine W_nilRow 185 5 1 ?_
   refine R9 (G9 rfl rfl (G9 rfl rfl (N9 (X9 ?_))))
   refine W_ret (X_then_ret ?_)
   exact Xq9 [185] (Ps:=[_]) (res2 Try.results15 rfl rfl) rfl (by decide) ⟨_,by rw [hE0],by rw [hR0]; rfl⟩
  ·
   have hsm:=of_decide_eq_false hc22
   rw [if_neg (by omega)] at hE0
   have hR0:rootR pl ver top tl=[114]++pl++numB ver 4++top++numB tl.length 2++tl:=by unfold rootR; rw [if_pos hE0]; simp [rootLs]
   refine K9 (X9 ?_)
   refine Q9 (R9 (Lc9 rfl rfl (by decide) (OpT_buildOnes (r:=102) (bs [114]) rfl rfl Try.runUnderlying30 Try.sizeOf5 Try.zeroValue5 rfl rfl (by decide) rfl (bs_cells _) (fun v23=>(L9 rfl (F9 0 rfl rfl) (L9 rfl (Pb9 (r:=101) rfl Try.isAgg30 rfl rfl rfl) (Lc9 rfl rfl (by decide) (Oa9 (r:=102) (r2:=0) rfl Try.underlying30 TI.hi5 TI.hz5 TI.hs5 TI.hby5 TI.hzs5 (by decide) rfl rfl rfl rfl hFp (bs_one _) (by unfold maxLen; simp [numB_length, *] <;> omega) (by simp [numB_length, *] <;> omega) (fun v26=>?_)))))))))
   refine Lt9 (P':=rowB 5 v26 ([114]++pl)) 102 rfl (fun h hp=>rowB_mk hp (by simp [numB_length, *] <;> omega) (by simp only [bs_append])) ?_
   refine (G9 rfl rfl (N9 (X9 ?_)))
   refine Q9 ?_
   refine W_draw (N:=8) (by kernel_rfl) rfl [(0,_),(101,_)] ⟨rfl,rfl,trivial⟩ ?_
   refine (T9 0 rfl rfl (Pm9 rfl rfl) (T9 1 rfl rfl (F9 1 rfl rfl) (T9 2 rfl rfl (Pb9 (r:=101) rfl Try.isAgg3 rfl rfl rfl) (T9 4 rfl rfl (F9 2 rfl rfl) (T9 5 rfl rfl (Pu_sliceArr rfl Try.runUnderlying29 Try.sizeOf5 rfl) (Y9 [3] ?_))))))
   refine Z9 rfl rfl (Oc9 200 [0,101] [102] rfl Try.call35 rfl rfl rfl (by decide) (by decide) (refFour_spec _ rfl _ ([114]++pl) ver (by simp [*]) _) (fun v30 Ps30 hR30=>?_)) ?_
   ·
    subst hR30
    refine ⟨⟨rfl,rfl,trivial⟩,?_⟩
    refine (Y9 [6] ?_)
    refine Z9 rfl rfl (Oa9 (r:=200) (r2:=101) rfl Try.underlying30 TI.hi5 TI.hz5 TI.hs5 TI.hby5 TI.hzs5 (by decide) rfl rfl rfl rfl (fun _ h=>blk_rd (xs:=bs top) h (take_rtop ht) (by rw [bs_length,ht]) (by omega)) (bs_one _) (by unfold maxLen; simp [numB_length, *] <;> omega) (by simp [numB_length, *] <;> omega) (fun v33=>?_)) ?_
    ·
     refine ⟨⟨rfl,rfl,trivial⟩,?_⟩
     refine AH_turn (P':=rowB 5 v33 ([114]++pl++numB ver 4++top)) 200 rfl (fun h hp=>rowB_mk hp (by simp [numB_length, *] <;> omega) (by simp only [bs_append])) ?_
     refine (T9 7 rfl rfl (Pg9 rfl rfl) (Ad9 (by kernel_rfl) (X9 ?_)))
     refine Q9 (R9 (M9 rfl rfl (L9 rfl (F9 34 rfl rfl) (L9 rfl (Pb9 (r:=101) rfl Try.isAgg30 rfl rfl (root_tail ht)) (L9 rfl (Pl9 (r:=0) rfl Try.runUnderlying30 rfl rfl hFt) (L9 rfl (Pn9 rfl rfl rfl (run_shr _ 8 _ _ _ (by omega))) (L9 rfl (Pu_conv rfl rfl (conv_byte _ _ Try.runUnderlying3 Try.runUnderlying5)) (L9 rfl (F9 34 rfl rfl) (L9 rfl (Pb9 (r:=101) rfl Try.isAgg30 rfl rfl (root_tail ht)) (L9 rfl (Pl9 (r:=0) rfl Try.runUnderlying30 rfl rfl hFt) (L9 rfl (Pu_conv rfl rfl (conv_byte _ _ Try.runUnderlying3 Try.runUnderlying5)) (Lc9 rfl rfl (by decide) (OpT_buildOnes (r:=201) (bs (numB tl.length 2)) rfl rfl Try.runUnderlying30 Try.sizeOf5 Try.zeroValue5 rfl rfl (by decide) (by rw [numB_two]; rfl) (bs_cells _) (fun v44=>(Lc9 rfl rfl (by decide) (Oa9 (r:=200) (r2:=201) rfl Try.underlying30 TI.hi5 TI.hz5 TI.hs5 TI.hby5 TI.hzs5 (by decide) rfl rfl rfl rfl (fun _ h=>rp9 h) (bs_one _) (by unfold maxLen; simp [numB_length, *] <;> omega) (by simp [numB_length, *] <;> omega) (fun v45=>?_)))))))))))))))))
     refine Lt9 (P':=rowB 5 v45 ([114]++pl++numB ver 4++top++numB tl.length 2)) 200 rfl (fun h hp=>rowB_mk hp (by simp [numB_length, *] <;> omega) (by simp only [bs_append])) ?_
     refine (G9 rfl rfl (N9 (X9 ?_)))
     refine Q9 (R9 (M9 rfl rfl (L9 rfl (F9 34 rfl rfl) (L9 rfl (Pb9 (r:=101) rfl Try.isAgg30 rfl rfl (root_tail ht)) (Lc9 rfl rfl (by decide) (Oa9 (r:=200) (r2:=0) rfl Try.underlying30 TI.hi5 TI.hz5 TI.hs5 TI.hby5 TI.hzs5 (by decide) rfl rfl rfl rfl hFt (bs_one _) (by unfold maxLen; simp [numB_length, *] <;> omega) (by simp [numB_length, *] <;> omega) (fun v49=>?_)))))))
     refine Lt9 (P':=rowB 5 v49 ([114]++pl++numB ver 4++top++numB tl.length 2++tl)) 200 rfl (fun h hp=>rowB_mk hp (by simp [numB_length, *] <;> omega) (by simp only [bs_append])) ?_
     refine (G9 rfl rfl (G9 rfl rfl (N9 (X9 ?_))))
     refine W_ret ?_
     exact Xq9 [200] (Ps:=[_]) (res2 Try.results15 rfl rfl) rfl (by decide) ⟨_,by rw [hE0],by rw [hR0]⟩
    exact An9
   exact An9
open Go.RowKit
set_option maxRecDepth 8000

theorem parse9_spec (v:Value) (l:List UInt8) (hok:pRootE l=0) (hl:l.length≤1000000) (F:HP) (hF:∀ h,F h→rdB v l h):CallsS Try.prog 12 #[v] F [] (fun r Ps=>∃ pv tv,r = .tuple #[rootV pv (val (l.drop 57) 4:Int) ((l.drop 61).take 32) tv,.int .i64 0]∧Ps=[rowB 5 pv ((l.drop 1).take 56),rowB 5 tv (l.drop 95)]):=by
 obtain ⟨h95,hbad,hlen⟩:=pRoot_ok hok
 have hpl:((l.drop 1).take 56).length=56:=by rw [List.length_take,List.length_drop]; omega
 have htp:((l.drop 61).take 32).length=32:=by rw [List.length_take,List.length_drop]; omega
 refine callsS_enter Try.func12 rfl Try.ntmps12 (by simp) (fun E=>?_)
 refine Q9 (R9 (Lc9 rfl rfl (by decide) (OpT_alloc (r:=101) (cs:=(rootC nilS 0 zeroId nilS)) rfl (zero_run (by kernel_rfl:(Try.prog.info? 39).bind (·.zero)=some (.agg (rootC nilS 0 zeroId nilS).toArray))) rfl (fun g101=>(G9 rfl rfl (N9 (X9 (Q9 (Q9 (R9 (M9 rfl rfl (L9 rfl (Pl9 (r:=0) rfl Try.runUnderlying30 rfl rfl hF) (L9 rfl (Pn9 rfl rfl rfl (run_lss _ _ _ _ _ _)) (N9 (X9 ?_)))))))))))))))
 refine W_false rfl (decide_eq_false (by omega)) ?_
 refine K9 (X9 ?_)
 refine W_cut (α:=Nat × Value) (fun z=>[(0,v),(2,.pointer (some ⟨g101,0,none⟩)),(4,.pointer (some ⟨z.1,0,none⟩))]) (fun z=>[(0,F),(101,blk g101 39 (rootC nilS 0 zeroId nilS)),(182,blk z.1 39 (rootC z.2 (val (l.drop 57) 4:Int) ((l.drop 61).take 32) nilS)),(183,rowB 5 z.2 ((l.drop 1).take 56))]) (fun z=>True) ?_ (fun z _=>?_)
 ·
  refine W_draw (N:=13) (by kernel_rfl) rfl [(0,_),(101,_)] ⟨rfl,rfl,trivial⟩ ?_
  refine (T9 1 rfl rfl (Pm9 rfl rfl) (T9 2 rfl rfl (Pu_slice (r:=0) (a:=1) (b:=57) rfl Try.runUnderlying30 Try.sizeOf5 rfl rfl hF (.inr ⟨_,_,_,rfl,rfl,rfl⟩) (.inr ⟨_,_,_,rfl,rfl,rfl⟩) (by omega) (by omega)) (T9 4 rfl rfl (Pm9 rfl rfl) (T9 5 rfl rfl (Pu_slice (r:=0) (a:=57) (b:=l.length) rfl Try.runUnderlying30 Try.sizeOf5 rfl rfl hF (.inr ⟨_,_,_,rfl,rfl,rfl⟩) (.inl ⟨rfl,rfl⟩) (by omega) (by omega)) (T9 7 rfl rfl (Pm9 rfl rfl) (T9 8 rfl rfl (Pu_slice (r:=0) (a:=61) (b:=l.length) rfl Try.runUnderlying30 Try.sizeOf5 rfl rfl hF (.inr ⟨_,_,_,rfl,rfl,rfl⟩) (.inl ⟨rfl,rfl⟩) (by omega) (by omega)) (Y9 [0,11] ?_)))))))
  refine Z9 rfl rfl (OpT_buildOnes (r:=102) (bs []) rfl rfl Try.runUnderlying30 Try.sizeOf5 Try.zeroValue5 rfl rfl (by decide) rfl (bs_cells _) (fun v10=>⟨⟨rfl,rfl,trivial⟩,?_⟩)) ?_
  ·
   refine (Y9 [3,11] ?_)
   refine Z9 rfl rfl (Oa9 (r:=102) (r2:=0) rfl Try.underlying30 TI.hi5 TI.hz5 TI.hs5 TI.hby5 TI.hzs5 (by decide) rfl rfl rfl rfl (fun h hq=>rdP_cast (rdB_subL (l':=((l.drop 1).take 56)) (hF h hq) (by omega) (by omega) rfl) rfl hpl) (bs_one _) (by unfold maxLen; omega) (by omega) (fun v13=>?_)) ?_
   ·
    refine ⟨⟨rfl,rfl,trivial⟩,?_⟩
    refine AH_turn (P':=rowB 5 v13 (((l.drop 1).take 56))) 102 rfl (fun h hp=>rowB_mk hp (by rw [hpl]) (by simp [bs])) ?_
    refine AH_fact (r:=102) rfl (fun h hp=>rd_one (rowB_rd _ hp)) (fun ho13=>?_)
    skip
    refine (Y9 [6,11] ?_)
    refine Z9 rfl rfl (Oc9 200 [0,101,102] [] rfl Try.call30 rfl rfl rfl (by decide) (by decide) (refGet_spec _ (l.drop 57) _ (rs9 0 rfl (fun h hq=>rdB_tail (hF h hq) (by omega))) (by rw [List.length_drop]; omega)) (fun v16 Ps16 hR16=>?_)) ?_
    ·
     obtain ⟨rfl,rfl⟩:=hR16
     refine ⟨⟨rfl,rfl,trivial⟩,?_⟩
     refine (Y9 [9,11] ?_)
     refine Z9 rfl rfl (Oc9 300 [0,101,102] [] rfl Try.call31 rfl rfl rfl (by decide) (by decide) (refId_spec _ (l.drop 61) _ (rs9 0 rfl (fun h hq=>rdB_tail (hF h hq) (by omega))) (by rw [List.length_drop]; omega)) (fun v19 Ps19 hR19=>?_)) ?_
     ·
      obtain ⟨rfl,rfl⟩:=hR19
      refine ⟨⟨rfl,rfl,trivial⟩,?_⟩
      refine (T9 10 rfl rfl (Pu_build (V:=rootV v13 (val (l.drop 57) 4:Int) ((l.drop 61).take 32) nilS) [(0,1),(1,1),(2,32),(34,1)] (rootC nilS 0 zeroId nilS) rfl rfl (by kernel_rfl) (by kernel_rfl) (.one rfl ho13 (by simp [rootC,bs_length,zeroId_length]) rfl (.one rfl rfl (by simp [rootC,bs_length,zeroId_length]) rfl (.many rfl ((bs_length _).trans htp) (by simp [rootC,bs_length,zeroId_length]) rfl (.nil _)))) (congrArg (fun c:List Value=>Value.agg c.toArray) (root_over zeroId_length htp))) (Y9 [11] ?_))
      refine Z9 rfl rfl (OpT_alloc (r:=301) (cs:=(rootC nilS 0 zeroId nilS)) rfl (zero_run (by kernel_rfl:(Try.prog.info? 39).bind (·.zero)=some (.agg (rootC nilS 0 zeroId nilS).toArray))) rfl (fun g301=>⟨⟨rfl,rfl,trivial⟩,?_⟩)) ?_
      ·
       refine (Y9 [12] ?_)
       refine Ac09 rfl rfl rfl (OpT_storeAll (r:=301) rfl Try.sizeOf39 rfl rfl rfl (rootC_length zeroId_length) (rootC_length htp) (one_root ho13 rfl) ?_) ?_
       ·
        refine ⟨⟨rfl,rfl,trivial⟩,?_⟩
        refine (Ad9 (by kernel_rfl) ?_)
        refine X_ren 301 182 rfl ?_
        refine X_ren 102 183 rfl ?_
        exact X_cut (g301,v13) trivial (a9 rfl) (a9 rfl)
       exact An9
      exact An9
     refine Z9 rfl rfl (OpT_alloc (r:=201) (cs:=(rootC nilS 0 zeroId nilS)) rfl (zero_run (by kernel_rfl:(Try.prog.info? 39).bind (·.zero)=some (.agg (rootC nilS 0 zeroId nilS).toArray))) rfl (fun g201=>⟨⟨rfl,rfl,trivial⟩,?_⟩)) ?_
     ·
      refine (Y9 [9] ?_)
      refine Z9 rfl rfl (Oc9 300 [0,101,102,201] [] rfl Try.call31 rfl rfl rfl (by decide) (by decide) (refId_spec _ (l.drop 61) _ (rs9 0 rfl (fun h hq=>rdB_tail (hF h hq) (by omega))) (by rw [List.length_drop]; omega)) (fun v19 Ps19 hR19=>?_)) ?_
      ·
       obtain ⟨rfl,rfl⟩:=hR19
       refine ⟨⟨rfl,rfl,trivial⟩,?_⟩
       refine (T9 10 rfl rfl (Pu_build (V:=rootV v13 (val (l.drop 57) 4:Int) ((l.drop 61).take 32) nilS) [(0,1),(1,1),(2,32),(34,1)] (rootC nilS 0 zeroId nilS) rfl rfl (by kernel_rfl) (by kernel_rfl) (.one rfl ho13 (by simp [rootC,bs_length,zeroId_length]) rfl (.one rfl rfl (by simp [rootC,bs_length,zeroId_length]) rfl (.many rfl ((bs_length _).trans htp) (by simp [rootC,bs_length,zeroId_length]) rfl (.nil _)))) (congrArg (fun c:List Value=>Value.agg c.toArray) (root_over zeroId_length htp))) (Y9 [12] ?_))
       refine Ac09 rfl rfl rfl (OpT_storeAll (r:=201) rfl Try.sizeOf39 rfl rfl rfl (rootC_length zeroId_length) (rootC_length htp) (one_root ho13 rfl) ?_) ?_
       ·
        refine ⟨⟨rfl,rfl,trivial⟩,?_⟩
        refine (Ad9 (by kernel_rfl) ?_)
        refine X_ren 201 182 rfl ?_
        refine X_ren 102 183 rfl ?_
        exact X_cut (g201,v13) trivial (a9 rfl) (a9 rfl)
       exact An9
      exact An9
     exact An9
    refine Z9 rfl rfl (OpT_alloc (r:=103) (cs:=(rootC nilS 0 zeroId nilS)) rfl (zero_run (by kernel_rfl:(Try.prog.info? 39).bind (·.zero)=some (.agg (rootC nilS 0 zeroId nilS).toArray))) rfl (fun g103=>⟨⟨rfl,rfl,trivial⟩,?_⟩)) ?_
    ·
     refine (Y9 [6] ?_)
     refine Z9 rfl rfl (Oc9 200 [0,101,102,103] [] rfl Try.call30 rfl rfl rfl (by decide) (by decide) (refGet_spec _ (l.drop 57) _ (rs9 0 rfl (fun h hq=>rdB_tail (hF h hq) (by omega))) (by rw [List.length_drop]; omega)) (fun v16 Ps16 hR16=>?_)) ?_
     ·
      obtain ⟨rfl,rfl⟩:=hR16
      refine ⟨⟨rfl,rfl,trivial⟩,?_⟩
      refine (Y9 [9] ?_)
      refine Z9 rfl rfl (Oc9 300 [0,101,102,103] [] rfl Try.call31 rfl rfl rfl (by decide) (by decide) (refId_spec _ (l.drop 61) _ (rs9 0 rfl (fun h hq=>rdB_tail (hF h hq) (by omega))) (by rw [List.length_drop]; omega)) (fun v19 Ps19 hR19=>?_)) ?_
      ·
       obtain ⟨rfl,rfl⟩:=hR19
       refine ⟨⟨rfl,rfl,trivial⟩,?_⟩
       refine (T9 10 rfl rfl (Pu_build (V:=rootV v13 (val (l.drop 57) 4:Int) ((l.drop 61).take 32) nilS) [(0,1),(1,1),(2,32),(34,1)] (rootC nilS 0 zeroId nilS) rfl rfl (by kernel_rfl) (by kernel_rfl) (.one rfl ho13 (by simp [rootC,bs_length,zeroId_length]) rfl (.one rfl rfl (by simp [rootC,bs_length,zeroId_length]) rfl (.many rfl ((bs_length _).trans htp) (by simp [rootC,bs_length,zeroId_length]) rfl (.nil _)))) (congrArg (fun c:List Value=>Value.agg c.toArray) (root_over zeroId_length htp))) (Y9 [12] ?_))
       refine Ac09 rfl rfl rfl (OpT_storeAll (r:=103) rfl Try.sizeOf39 rfl rfl rfl (rootC_length zeroId_length) (rootC_length htp) (one_root ho13 rfl) ?_) ?_
       ·
        refine ⟨⟨rfl,rfl,trivial⟩,?_⟩
        refine (Ad9 (by kernel_rfl) ?_)
        refine X_ren 103 182 rfl ?_
        refine X_ren 102 183 rfl ?_
        exact X_cut (g103,v13) trivial (a9 rfl) (a9 rfl)
       exact An9
      exact An9
     exact An9
    exact An9
   refine Z9 rfl rfl (OpT_alloc (r:=103) (cs:=(rootC nilS 0 zeroId nilS)) rfl (zero_run (by kernel_rfl:(Try.prog.info? 39).bind (·.zero)=some (.agg (rootC nilS 0 zeroId nilS).toArray))) rfl (fun g103=>⟨⟨rfl,rfl,trivial⟩,?_⟩)) ?_
   ·
    refine (Y9 [3] ?_)
    refine Z9 rfl rfl (Oa9 (r:=102) (r2:=0) rfl Try.underlying30 TI.hi5 TI.hz5 TI.hs5 TI.hby5 TI.hzs5 (by decide) rfl rfl rfl rfl (fun h hq=>rdP_cast (rdB_subL (l':=((l.drop 1).take 56)) (hF h hq) (by omega) (by omega) rfl) rfl hpl) (bs_one _) (by unfold maxLen; omega) (by omega) (fun v13=>?_)) ?_
    ·
     refine ⟨⟨rfl,rfl,trivial⟩,?_⟩
     refine AH_turn (P':=rowB 5 v13 (((l.drop 1).take 56))) 102 rfl (fun h hp=>rowB_mk hp (by rw [hpl]) (by simp [bs])) ?_
     refine AH_fact (r:=102) rfl (fun h hp=>rd_one (rowB_rd _ hp)) (fun ho13=>?_)
     skip
     refine (Y9 [6] ?_)
     refine Z9 rfl rfl (Oc9 200 [0,101,102,103] [] rfl Try.call30 rfl rfl rfl (by decide) (by decide) (refGet_spec _ (l.drop 57) _ (rs9 0 rfl (fun h hq=>rdB_tail (hF h hq) (by omega))) (by rw [List.length_drop]; omega)) (fun v16 Ps16 hR16=>?_)) ?_
     ·
      obtain ⟨rfl,rfl⟩:=hR16
      refine ⟨⟨rfl,rfl,trivial⟩,?_⟩
      refine (Y9 [9] ?_)
      refine Z9 rfl rfl (Oc9 300 [0,101,102,103] [] rfl Try.call31 rfl rfl rfl (by decide) (by decide) (refId_spec _ (l.drop 61) _ (rs9 0 rfl (fun h hq=>rdB_tail (hF h hq) (by omega))) (by rw [List.length_drop]; omega)) (fun v19 Ps19 hR19=>?_)) ?_
      ·
       obtain ⟨rfl,rfl⟩:=hR19
       refine ⟨⟨rfl,rfl,trivial⟩,?_⟩
       refine (T9 10 rfl rfl (Pu_build (V:=rootV v13 (val (l.drop 57) 4:Int) ((l.drop 61).take 32) nilS) [(0,1),(1,1),(2,32),(34,1)] (rootC nilS 0 zeroId nilS) rfl rfl (by kernel_rfl) (by kernel_rfl) (.one rfl ho13 (by simp [rootC,bs_length,zeroId_length]) rfl (.one rfl rfl (by simp [rootC,bs_length,zeroId_length]) rfl (.many rfl ((bs_length _).trans htp) (by simp [rootC,bs_length,zeroId_length]) rfl (.nil _)))) (congrArg (fun c:List Value=>Value.agg c.toArray) (root_over zeroId_length htp))) (Y9 [12] ?_))
       refine Ac09 rfl rfl rfl (OpT_storeAll (r:=103) rfl Try.sizeOf39 rfl rfl rfl (rootC_length zeroId_length) (rootC_length htp) (one_root ho13 rfl) ?_) ?_
       ·
        refine ⟨⟨rfl,rfl,trivial⟩,?_⟩
        refine (Ad9 (by kernel_rfl) ?_)
        refine X_ren 103 182 rfl ?_
        refine X_ren 102 183 rfl ?_
        exact X_cut (g103,v13) trivial (a9 rfl) (a9 rfl)
       exact An9
      exact An9
     exact An9
    exact An9
   exact An9
  refine Z9 rfl rfl (OpT_alloc (r:=102) (cs:=(rootC nilS 0 zeroId nilS)) rfl (zero_run (by kernel_rfl:(Try.prog.info? 39).bind (·.zero)=some (.agg (rootC nilS 0 zeroId nilS).toArray))) rfl (fun g102=>⟨⟨rfl,rfl,trivial⟩,?_⟩)) ?_
  ·
   refine (Y9 [0] ?_)
   refine Z9 rfl rfl (OpT_buildOnes (r:=103) (bs []) rfl rfl Try.runUnderlying30 Try.sizeOf5 Try.zeroValue5 rfl rfl (by decide) rfl (bs_cells _) (fun v10=>⟨⟨rfl,rfl,trivial⟩,?_⟩)) ?_
   ·
    refine (Y9 [3] ?_)
    refine Z9 rfl rfl (Oa9 (r:=103) (r2:=0) rfl Try.underlying30 TI.hi5 TI.hz5 TI.hs5 TI.hby5 TI.hzs5 (by decide) rfl rfl rfl rfl (fun h hq=>rdP_cast (rdB_subL (l':=((l.drop 1).take 56)) (hF h hq) (by omega) (by omega) rfl) rfl hpl) (bs_one _) (by unfold maxLen; omega) (by omega) (fun v13=>?_)) ?_
    ·
     refine ⟨⟨rfl,rfl,trivial⟩,?_⟩
     refine AH_turn (P':=rowB 5 v13 (((l.drop 1).take 56))) 103 rfl (fun h hp=>rowB_mk hp (by rw [hpl]) (by simp [bs])) ?_
     refine AH_fact (r:=103) rfl (fun h hp=>rd_one (rowB_rd _ hp)) (fun ho13=>?_)
     skip
     refine (Y9 [6] ?_)
     refine Z9 rfl rfl (Oc9 200 [0,101,102,103] [] rfl Try.call30 rfl rfl rfl (by decide) (by decide) (refGet_spec _ (l.drop 57) _ (rs9 0 rfl (fun h hq=>rdB_tail (hF h hq) (by omega))) (by rw [List.length_drop]; omega)) (fun v16 Ps16 hR16=>?_)) ?_
     ·
      obtain ⟨rfl,rfl⟩:=hR16
      refine ⟨⟨rfl,rfl,trivial⟩,?_⟩
      refine (Y9 [9] ?_)
      refine Z9 rfl rfl (Oc9 300 [0,101,102,103] [] rfl Try.call31 rfl rfl rfl (by decide) (by decide) (refId_spec _ (l.drop 61) _ (rs9 0 rfl (fun h hq=>rdB_tail (hF h hq) (by omega))) (by rw [List.length_drop]; omega)) (fun v19 Ps19 hR19=>?_)) ?_
      ·
       obtain ⟨rfl,rfl⟩:=hR19
       refine ⟨⟨rfl,rfl,trivial⟩,?_⟩
       refine (T9 10 rfl rfl (Pu_build (V:=rootV v13 (val (l.drop 57) 4:Int) ((l.drop 61).take 32) nilS) [(0,1),(1,1),(2,32),(34,1)] (rootC nilS 0 zeroId nilS) rfl rfl (by kernel_rfl) (by kernel_rfl) (.one rfl ho13 (by simp [rootC,bs_length,zeroId_length]) rfl (.one rfl rfl (by simp [rootC,bs_length,zeroId_length]) rfl (.many rfl ((bs_length _).trans htp) (by simp [rootC,bs_length,zeroId_length]) rfl (.nil _)))) (congrArg (fun c:List Value=>Value.agg c.toArray) (root_over zeroId_length htp))) (Y9 [12] ?_))
       refine Ac09 rfl rfl rfl (OpT_storeAll (r:=102) rfl Try.sizeOf39 rfl rfl rfl (rootC_length zeroId_length) (rootC_length htp) (one_root ho13 rfl) ?_) ?_
       ·
        refine ⟨⟨rfl,rfl,trivial⟩,?_⟩
        refine (Ad9 (by kernel_rfl) ?_)
        refine X_ren 102 182 rfl ?_
        refine X_ren 103 183 rfl ?_
        exact X_cut (g102,v13) trivial (a9 rfl) (a9 rfl)
       exact An9
      exact An9
     exact An9
    exact An9
   exact An9
  exact An9
 ·
  refine W_fact (r:=183) rfl (fun h hp=>rd_one (rowB_rd _ hp)) (fun hop=>?_)
  refine Q9 ?_
  refine W_draw (N:=11) (by kernel_rfl) rfl [(0,_),(101,_),(182,_)] ⟨rfl,rfl,rfl,trivial⟩ ?_
  refine (T9 0 rfl rfl (Pm9 rfl rfl) (T9 1 rfl rfl (Pu_idxS1 (r:=0) rfl Try.runUnderlying30 Try.sizeOf5 rfl rfl rfl hF (by omega)) (T9 2 rfl rfl (Py9 (r:=0) rfl Try.isAgg5 rfl rfl hF (bs_at1 (k:=93) (by omega))) (T9 3 rfl rfl (Pu_conv rfl rfl (conv_u8 _ Try.runUnderlying5 Try.runUnderlying3)) (T9 4 rfl rfl (Pn9 rfl rfl rfl (run_shl _ 8 _ _ _ (by have:=(at0 l 93).toNat_lt; omega) (by omega))) (T9 5 rfl rfl (Pm9 rfl rfl) (T9 6 rfl rfl (Pu_idxS1 (r:=0) rfl Try.runUnderlying30 Try.sizeOf5 rfl rfl rfl hF (by omega)) (T9 7 rfl rfl (Py9 (r:=0) rfl Try.isAgg5 rfl rfl hF (bs_at1 (k:=94) (by omega))) (T9 8 rfl rfl (Pu_conv rfl rfl (conv_u8 _ Try.runUnderlying5 Try.runUnderlying3)) (T9 9 rfl rfl (Pn9 rfl rfl rfl (run_or _ _ 8 _ _ _ (by have:=(at0 l 93).toNat_lt; have:=(at0 l 94).toNat_lt; omega) (by have:=(at0 l 93).toNat_lt; have:=(at0 l 94).toNat_lt; omega) (by have:=(at0 l 93).toNat_lt; have:=(at0 l 94).toNat_lt; omega) (by omega))) ?_))))))))))
  rw [show (((at0 l 93).toNat * 2 ^ 8 + (at0 l 94).toNat:Nat):Int)=(val (l.drop 93) 2:Int) by rw [val_two2]]
  refine (T9 10 rfl rfl (Pg9 rfl rfl) (Ad9 (by kernel_rfl) (X9 ?_)))
  refine Q9 (Q9 (R9 (M9 rfl rfl (L9 rfl (Pu_idxS1 (r:=0) rfl Try.runUnderlying30 Try.sizeOf5 rfl rfl rfl hF (by omega)) (L9 rfl (Py9 (r:=0) rfl Try.isAgg5 rfl rfl hF (bs_at1 (k:=0) (by omega))) (L9 rfl (Pn9 rfl rfl rfl (run_neq _ _ _ _ _ _)) (M9 rfl rfl (Lg9 rfl rfl rfl rfl (by decide) (fun hb=>(F9 1 rfl rfl)) (Lg9 rfl rfl rfl rfl (by decide) (fun hb=>(Pb9 (r:=182) rfl Try.isAgg3 (ev_gv rfl hb) rfl rfl)) (Lg9 rfl rfl rfl rfl (by decide) (fun hb=>(Pn9 rfl (ev_gv rfl hb) rfl (run_lss _ _ _ _ _ _))) (L9 rfl (Pu_or rfl rfl rfl) (M9 rfl rfl (Lg9 rfl rfl rfl rfl (by decide) (fun hb=>(F9 1 rfl rfl)) (Lg9 rfl rfl rfl rfl (by decide) (fun hb=>(Pb9 (r:=182) rfl Try.isAgg3 (ev_gv rfl hb) rfl rfl)) (Lg9 rfl rfl rfl rfl (by decide) (fun hb=>(Pn9 rfl (ev_gv rfl hb) rfl (run_gtr _ _ _ _ _ _))) (L9 rfl (Pu_or rfl rfl rfl) (M9 rfl rfl (Lg9 rfl rfl rfl rfl (by decide) (fun hb=>(Pm9 rfl rfl)) (Lg9 rfl rfl rfl rfl (by decide) (fun hb=>(Pn9 rfl (ev_gv rfl hb) rfl (run_gtr _ _ _ _ _ _))) (L9 rfl (Pu_or rfl rfl rfl) (N9 (X9 ?_))))))))))))))))))))))
  refine W_false rfl (pRootBad_of.trans hbad) ?_
  refine K9 (X9 ?_)
  refine Q9 (Q9 (R9 (M9 rfl rfl (L9 rfl (Pl9 (r:=0) rfl Try.runUnderlying30 rfl rfl hF) (M9 rfl rfl (L9 rfl (Pn9 rfl rfl rfl (run_add _ _ _ _ _ (by omega))) (L9 rfl (Pn9 rfl rfl rfl (run_lss _ _ _ _ _ _)) (N9 (X9 ?_)))))))))
  refine W_false rfl (decide_eq_false (by omega)) ?_
  refine K9 (X9 ?_)
  refine Q9 (Q9 (R9 (M9 rfl rfl (L9 rfl (Pl9 (r:=0) rfl Try.runUnderlying30 rfl rfl hF) (M9 rfl rfl (L9 rfl (Pn9 rfl rfl rfl (run_add _ _ _ _ _ (by omega))) (L9 rfl (Pn9 rfl rfl rfl (run_gtr _ _ _ _ _ _)) (N9 (X9 ?_)))))))))
  refine W_false rfl (decide_eq_false (by omega)) ?_
  refine K9 (X9 ?_)
  refine Q9 (R9 (Lc9 rfl rfl (by decide) (OpT_buildOnes (r:=102) (bs []) rfl rfl Try.runUnderlying30 Try.sizeOf5 Try.zeroValue5 rfl rfl (by decide) rfl (bs_cells _) (fun v62=>(M9 rfl rfl (L9 rfl (Pu_slice (r:=0) (a:=95) (b:=l.length) rfl Try.runUnderlying30 Try.sizeOf5 rfl rfl hF (.inr ⟨_,_,_,rfl,rfl,rfl⟩) (.inl ⟨rfl,rfl⟩) (by omega) (by omega)) (Lc9 rfl rfl (by decide) (Oa9 (r:=102) (r2:=0) rfl Try.underlying30 TI.hi5 TI.hz5 TI.hs5 TI.hby5 TI.hzs5 (by decide) rfl rfl rfl rfl (fun h hq=>rdB_tail (hF h hq) (by omega)) (bs_one _) (by unfold maxLen; simp; omega) (by simp; omega) (fun v65=>?_)))))))))
  refine Lt9 (P':=rowB 5 v65 ((l.drop 95))) 102 rfl (fun h hp=>rowB_mk hp (by simp) (by simp [bs])) ?_
  refine WL_fact (r:=102) rfl (fun h hp=>rd_one (rowB_rd _ hp)) (fun ho65=>?_)
  skip
  refine (L9 rfl (F9 34 rfl rfl) (Lc09 rfl rfl (OpT_storeB1 (r:=182) rfl Try.sizeOf30 rfl rfl rfl ho65 (by rw [rootC_length htp]; decide) (root_set htp) ?_)))
  refine (N9 (X9 ?_))
  refine Q9 (R9 (L9 rfl (Px9 (r:=182) rfl Try.isAgg39 Try.sizeOf39 rfl rfl (rootC_length htp) (load_all (rootC_length htp))) (Lc09 rfl rfl (OpT_storeAll (r:=101) rfl Try.sizeOf39 rfl rfl rfl (rootC_length zeroId_length) (rootC_length htp) (one_root hop ho65) ?_))))
  refine (G9 rfl rfl (N9 (X9 ?_)))
  refine W_ret ?_
  exact Xq9 [183,102] (Ps:=[_,_]) (resC2 (r:=101) Try.results12 rfl rfl Try.isAgg39 Try.sizeOf39 rfl (rootC_length htp)) rfl (by decide) ⟨_,_,rfl,rfl⟩
open Go.RowKit
section
variable {P:Program} {E:Env} {n:Nat} {K:Slots} {L:Res} {o:Oper} {C:Value→Res→Prop}
theorem Pu_sliceArrFrom {t e g off m:Nat} (a:Nat) {x y:Operand} (ho:o.op = .slice t x (some y) none none) (hu:∀ w,(underlying t).run P w = .ok (.array m e) w) (hs:∀ w,(sizeOf e).run P w = .ok 1 w) (hx:evK K x=some (.pointer (some ⟨g,off,none⟩))) (hy:evK K y=some (.int .i64 (a:Int))) (ha:a < m):Pure P E n o K L (.slice (some ⟨g,off + a,none⟩) (m - a) (m - a)) :=
  (fun ac w hA hS=>by
    have sb:∀ (w:World),(Instr.sliceBound (.int .i64 (a:Int)) m .sliceB).run P w = .ok a w:=fun w=>by
      simp only [Instr.sliceBound,asIntOf,Sem.run_bind,Sem.run_pure,Result.andThen_ok]
      rw [if_pos (by omega)]
      simp
    have hma:m≠a:=by omega
    simp only [execOp,ho,hA.eval hx,hA.eval hy,Option.map_none,Option.map_some,Sem.run_bind,Instr.sliceAt,hu,hs,Result.andThen_ok,Instr.sureAddr,Instr.sliceBounds,Sem.run_pure,Option.isSome_none,Bool.false_eq_true,if_false,sb,hma,addr_add,Nat.mul_one])
theorem Pu_sliceArrN {t e g off m size:Nat} {x:Operand} (ho:o.op = .slice t x none none none) (hu:∀ w,(underlying t).run P w = .ok (.array m e) w) (hs:∀ w,(sizeOf e).run P w = .ok size w) (hx:evK K x=some (.pointer (some ⟨g,off,none⟩))):Pure P E n o K L (.slice (some ⟨g,off,none⟩) m m) :=
  (fun ac w hA hS=>by
    simp only [execOp,ho,hA.eval hx,Option.map_none,Sem.run_bind,Instr.sliceAt,hu,hs,Result.andThen_ok,Instr.sureAddr,Instr.sliceBounds,Sem.run_pure]
    by_cases hm:m=0 <;> simp [hm,Addr.add])
theorem OpT_callV {f:FuncId} {x:Operand} {cap:List Value} {xs:List Operand} {vs:List Value} {ts:Array TypeId} {R:Value→List HP→Prop} (b:Nat) (J Cs:List Nat) {Js Ps:List HP}
    (ho:o.op = .call { callee:=.value x,args:=xs.toArray,argTypes:=ts }) (hf:evK K x=some (.func (.func f) #[] cap.toArray)) (hc:∀ args w,(callFunc f args).run P w = .ok (.enter f args) w) (hx:evL K xs=some vs)
    (hJ:lookL L J=some Js) (hC:lookL L Cs=some Ps) (hn:(J++Cs).Nodup) (hb:∀ j ∈ J,j < b)
    (spec:CallsS P f (vs++cap).toArray (starL Js) Ps R) (k:∀ v Ps',R v Ps'→C v (En b Ps'++zipR J Js)):OpT P E n o K L C:=fun a w Kc Q hA hS hK=>by
  have hargs:=evArgs hA (evL_map hx)
  have hrun:(execOp a.eval o).run P w = .ok (.enter f (vs++cap).toArray) w:=by
    have:(xs.toArray.map a.eval)=vs.toArray:=by simp [hargs]
    have h2:vs.toArray++cap.toArray=(vs++cap).toArray:=by simp
    simp only [execOp,ho,resolve,hA.eval hf,this,Deferred.ofValue,Sem.run_bind,Sem.run_pure,Result.andThen_ok,invoke,Array.empty_append,hc,h2]
  unfold Oper.wp
  rw [hrun]
  refine (spec E w (hS.pack (.of hJ) (.of hC) hn)).mono fun e w' ⟨v,Ps',he,hR,hS'⟩=>?_
  subst he
  exact hK _ _ _ (k v Ps' hR) (hS'.unpack b (List.nodup_append.1 hn).1 hb)
theorem OpT_makeLen {t e r:Nat} (m c:Nat) {x y:Operand} {i:TypeInfo} {z:Value} {kl kc:IntKind} (ho:o.op = .makeSlice t x y) (ht:P.underlying t=some (.slice e)) (hi:P.info? e=some i) (hz:i.zero=some z) (hsize:i.size=1) (hz1:z.cells = #[z])
    (hx:evK K x=some (.int kl (m:Int))) (hy:evK K y=some (.int kc (c:Int))) (hmc:m≤c) (hb:i.bytes * c≤281474976710656) (hm:c≤maxLen) (k:∀ v,C v ((r,rowP e 1 v m (List.replicate m z))::L)):OpT P E n o K L C:=fun a w Kc Q hA hS hK=>by
  have h63':(c:Int)≤9223372036854775807:=by
    have h:=hm
    simp [maxLen] at h
    omega
  have hb':(i.bytes:Int) * (c:Int)≤281474976710656:=by
    have h:((i.bytes * c:Nat):Int)≤281474976710656:=by omega
    rwa [Int.natCast_mul] at h
  have hrun:=run_make (P:=P) w t e i z ht hi hz kl kc m c (by omega) (by omega) hb' h63'
  simp only [Int.toNat_natCast] at hrun
  unfold Oper.wp execOp
  simp only [ho,hA.eval hx,hA.eval hy,Sem.run_bind,hrun,Result.andThen_ok,Sem.run_pure]
  refine hK _ _ _ (k _) ?_
  have hS2:=hS.blk r e (madeCells z.cells (c * i.size))
  have hS3:=hS2.cons (P':=rowP e 1 (.slice (some ⟨w.heap.size,0,none⟩) m c) m (List.replicate m z)) (look_same r _ L) (fun h hb=>by
    refine ⟨by simp,.inr ⟨_,c,madeCells z.cells (c * i.size),rfl,?_,hmc,hm,by simp [size_madeCells,hsize],?_⟩⟩
    · unfold Proofs.Ytinamipkpdlphaa.blk at hb
      simpa using hb
    · rw [hz1]
      apply List.ext_getElem
      · simp [madeCells,hsize,hmc]
      · intro j h1 h2
        simp [madeCells,hsize,Nat.mod_one])
  exact hS3.sub (fun r' P' h=>by
    by_cases hr:r=r'
    · subst hr; rw [look_same] at h ⊢; exact h
    · rw [look_other hr] at h; rw [look_other hr,look_other hr]; exact h)
end
def keyC (nm:List UInt8) (q:Int):List Value:=bs nm++[.int .i64 q]
def keyV (nm:List UInt8) (q:Int):Value:=.agg (keyC nm q).toArray
theorem keyC_length {nm:List UInt8} {q:Int} (h:nm.length=16):(keyC nm q).length=17:=by simp [keyC,bs_length,h]
theorem keyC_one (nm:List UInt8) (q:Int):∀ u ∈ keyC nm q,u.oneCell'=true:=by
  intro u hu
  simp only [keyC,List.mem_append,List.mem_cons,List.not_mem_nil,or_false] at hu
  rcases hu with hu | rfl
  · exact bs_one _ u hu
  · rfl
theorem keyC_name {nm:List UInt8} {q:Int} (h:nm.length=16):((keyC nm q).drop 0).take (16 * 1)=bs nm:=by
  unfold keyC
  rw [List.drop_zero,List.take_append_of_le_length (by rw [bs_length]; omega),List.take_of_length_le (by rw [bs_length]; omega)]
theorem keyC_num {nm:List UInt8} {q:Int} (h:nm.length=16):(keyC nm q)[0 + 16]?=some (.int .i64 q):=by
  unfold keyC
  rw [List.getElem?_append_right (by rw [bs_length]; omega),bs_length,h]
  rfl
theorem over_bs (a b c:List UInt8) (k:Nat) (h:a.take k++b++a.drop (k + b.length)=c):over (bs a) k (bs b)=bs c:=by
  subst h
  unfold over
  rw [bs_length,bs_append,bs_append,List.append_assoc,← bs_take,← bs_drop]
section
variable {P:Program} {E:Env} {n:Nat} {K:Slots} {L:Res} {o:Oper} {C:Value→Res→Prop}
theorem OpT_copyRow {tD tS r r2 e el m m2:Nat} {x y:Operand} {v:Value} {xs xs' ys:List Value} {vs:Value} {P2:HP} (hm0:0 < m) (ho:o.op = .call { callee:=.builtin .copy,args:=#[x,y],argTypes:=#[tD,tS] }) (hu:P.underlying tD=some (.slice el)) (hsz:(P.info? el).map (·.size)=some 1)
    (hx:evK K x=some v) (hy:evK K y=some vs) (hr:look L r=some (rowP e 1 v m xs)) (hr2:look L r2=some P2) (hrd:∀ h,P2 h→rdP 1 vs m2 ys h) (h1:∀ x ∈ ys,x.oneCell'=true)
    (hfit:min m2 m≤xs.length) (hxs:over xs 0 (ys.take (min m2 m))=xs') (k:C (.int .i64 ((min m2 m:Nat):Int)) ((r,rowP e 1 v m xs')::L)):OpT P E n o K L C:=fun a w Kc Q hA hS hK=>by
  obtain ⟨g,cap,hv⟩:∃ g cap,v = .slice (some ⟨g,0,none⟩) m cap:=hS.get hr (fun h hp=>by
    rcases hp.2 with ⟨_,h0⟩ | ⟨g,cap,cur,hv,_⟩
    · omega
    · exact ⟨g,cap,hv⟩)
  exact OpT_copyS (k0:=0) (dl:=m) (dc:=cap) ho hu hsz (by rw [hx,hv]; simp [adrOf,addr_add0]) hy hr hr2 hrd h1 (by omega) hxs k a w Kc Q hA hS hK
end
theorem id_copy {b:List UInt8} (hb:32≤b.length):over (bs zeroId) 0 ((bs b).take (min b.length 32))=bs (b.take 32):=by
  rw [Nat.min_eq_right hb,← bs_take]
  exact over_bs _ _ _ 0 (by
    have h1:(b.take 32).length=32:=by simp; omega
    rw [h1,List.take_zero,List.nil_append,List.drop_of_length_le (by decide),List.append_nil])
theorem okB_cells {sig:List UInt8} (h:sig.length=4292):(!decide (((at0 sig 0).toNat:Int)=0) || !decide (((at0 sig 1).toNat:Int)=0) || !decide (((at0 sig 2).toNat:Int)=0) || !decide (((at0 sig 3).toNat:Int)=2)) = !okB sig:=by
  have key:∀ (x:UInt8) (k:Nat),k < 256→decide ((x.toNat:Int)=(k:Int))=decide (x=UInt8.ofNat k):=fun x k hk=>by
    have:(UInt8.ofNat k).toNat=k:=by rw [UInt8.toNat_ofNat']; omega
    congr 1
    apply propext
    rw [← UInt8.toNat_inj,this]
    omega
  have k0:∀ x:UInt8,decide ((x.toNat:Int)=0)=decide (x=0):=fun x=>key x 0 (by decide)
  have k2:∀ x:UInt8,decide ((x.toNat:Int)=2)=decide (x=2):=fun x=>key x 2 (by decide)
  rw [k0,k0,k0,k2]
  unfold okB
  rw [h]
  match sig,h with
  | a::b::c::d::r,_ =>
    show (!decide (a=0) || !decide (b=0) || !decide (c=0) || !decide (d=2)) = !(decide (4292=4292) && ([a,b,c,d] == [0,0,0,2]))
    by_cases h0:a=0 <;> by_cases h1:b=0 <;> by_cases h2:c=0 <;> by_cases h3:d=2 <;> simp [h0,h1,h2,h3]
open Go.RowKit
set_option maxRecDepth 8000

theorem khead_spec (nm:List UInt8) (hn:nm.length=16) (q mark:Int) (F:HP):CallsS Try.prog 72 #[keyV nm q,.int .i64 mark] F [] (fun r Ps=>Ps=[rowB 5 r (hdL nm q++numB mark 2)]):=by
 refine callsS_enter Try.func72 rfl Try.ntmps72 (by simp) (fun E=>?_)
 refine Q9 (R9 (Lc9 rfl rfl (by decide) (OpT_box (r:=101) rfl rfl rfl (fun g101=>(G9 rfl rfl (N9 (X9 (Q9 (R9 (Lc9 rfl rfl (by decide) (OpT_makeCap (r:=102) (m:=4292) rfl Try.underlying30 TI.hi5 TI.hz5 TI.hs5 rfl rfl (by rw [TI.hby5]; omega) (by unfold maxLen; omega) (fun v6=>?_))))))))))))
 refine (G9 rfl rfl (N9 (X9 ?_)))
 refine Q9 (R9 (M9 rfl rfl (L9 rfl (F9 0 rfl rfl) (L9 rfl (Pu_sliceArr rfl Try.runUnderlying52 Try.sizeOf5 rfl) (Lc9 rfl rfl (by decide) (Oa9 (r:=102) (r2:=101) rfl Try.underlying30 TI.hi5 TI.hz5 TI.hs5 TI.hby5 TI.hzs5 (by decide) rfl rfl rfl rfl (fun _ h=>blk_rd h (keyC_name hn) (by rw [bs_length,hn]) (Nat.le_refl _)) (bs_one _) (by unfold maxLen; omega) (by omega) (fun v10=>?_)))))))
 refine Lt9 (P':=rowB 5 v10 (nm)) 102 rfl (fun h hp=>rowB_mk hp (by simp [hn]) (by simp [bs])) ?_
 refine (G9 rfl rfl (N9 (X9 ?_)))
 refine Q9 (R9 (M9 rfl rfl (L9 rfl (F9 16 rfl rfl) (L9 rfl (Pb9 (r:=101) rfl Try.isAgg3 rfl rfl (keyC_num hn)) (L9 rfl (Pn9 rfl rfl rfl (run_shr _ 24 _ _ _ (by omega))) (L9 rfl (Pu_conv rfl rfl (conv_byte _ _ Try.runUnderlying3 Try.runUnderlying5)) (L9 rfl (F9 16 rfl rfl) (L9 rfl (Pb9 (r:=101) rfl Try.isAgg3 rfl rfl (keyC_num hn)) (L9 rfl (Pn9 rfl rfl rfl (run_shr _ 16 _ _ _ (by omega))) (L9 rfl (Pu_conv rfl rfl (conv_byte _ _ Try.runUnderlying3 Try.runUnderlying5)) (L9 rfl (F9 16 rfl rfl) (L9 rfl (Pb9 (r:=101) rfl Try.isAgg3 rfl rfl (keyC_num hn)) (L9 rfl (Pn9 rfl rfl rfl (run_shr _ 8 _ _ _ (by omega))) (L9 rfl (Pu_conv rfl rfl (conv_byte _ _ Try.runUnderlying3 Try.runUnderlying5)) (L9 rfl (F9 16 rfl rfl) (L9 rfl (Pb9 (r:=101) rfl Try.isAgg3 rfl rfl (keyC_num hn)) (L9 rfl (Pu_conv rfl rfl (conv_byte _ _ Try.runUnderlying3 Try.runUnderlying5)) (M9 rfl rfl (L9 rfl (Pn9 rfl rfl rfl (run_shr _ 8 _ _ _ (by omega))) (L9 rfl (Pu_conv rfl rfl (conv_byte _ _ Try.runUnderlying3 Try.runUnderlying5)) (M9 rfl rfl (L9 rfl (Pu_conv rfl rfl (conv_byte _ _ Try.runUnderlying3 Try.runUnderlying5)) (Lc9 rfl rfl (by decide) (OpT_buildOnes (r:=103) (bs (numB q 4++numB mark 2)) rfl rfl Try.runUnderlying30 Try.sizeOf5 Try.zeroValue5 rfl rfl (by decide) (by rw [numB_four,numB_two]; rfl) (bs_cells _) (fun v32=>(Lc9 rfl rfl (by decide) (Oa9 (r:=102) (r2:=103) rfl Try.underlying30 TI.hi5 TI.hz5 TI.hs5 TI.hby5 TI.hzs5 (by decide) rfl rfl rfl rfl (fun _ h=>rp9 h) (bs_one _) (by unfold maxLen; omega) (by omega) (fun v33=>?_))))))))))))))))))))))))))))
 refine Lt9 (P':=rowB 5 v33 (hdL nm q++numB mark 2)) 102 rfl (fun h hp=>rowB_mk hp (by simp [hdL_length hn,numB_length,hn]) (by unfold hdL; simp only [bs_append,List.append_assoc])) ?_
 refine (G9 rfl rfl (N9 (X9 ?_)))
 refine W_ret ?_
 exact Xq9 [102] (Ps:=[_]) (res1 Try.results72 rfl) rfl (by decide) rfl
theorem khash_spec (nm:List UInt8) (hn:nm.length=16) (q mark b:Int) (t:List UInt8) (ht:t.length=32) (F:HP):CallsS Try.prog 73 #[keyV nm q,.int .i64 mark,.int .i64 b,idV t] F [] (fun r Ps=>r=idV (hashC nm q mark b t)∧Ps=[]):=by
 refine callsS_enter Try.func73 rfl Try.ntmps73 (by simp) (fun E=>?_)
 refine Q9 (R9 (Lc9 rfl rfl (by decide) (OpT_box (r:=101) rfl rfl rfl (fun g101=>(Lc9 rfl rfl (by decide) (OpT_box (r:=102) rfl rfl rfl (fun g102=>(Lc9 rfl rfl (by decide) (OpT_alloc (r:=103) (cs:=(bs zeroId)) rfl (zero_run (by kernel_rfl:(Try.prog.info? 29).bind (·.zero)=some (.agg (bs zeroId).toArray))) rfl (fun g103=>(N9 (X9 (Q9 (R9 (Lc9 rfl rfl (by decide) (OpT_alloc (r:=104) (cs:=(bs (List.replicate 55 0))) rfl (zero_run (by kernel_rfl:(Try.prog.info? 130).bind (·.zero)=some (.agg (bs (List.replicate 55 0)).toArray))) rfl (fun g104=>(N9 (X9 (Q9 ?_))))))))))))))))))))
 refine W_draw (N:=5) (by kernel_rfl) rfl [(0,_),(101,_),(102,_),(103,_)] ⟨rfl,rfl,rfl,rfl,trivial⟩ ?_
 refine (T9 0 rfl rfl (Pu_sliceArr rfl Try.runUnderlying130 Try.sizeOf5 rfl) (T9 1 rfl rfl (F9 0 rfl rfl) (T9 2 rfl rfl (Pu_sliceArr rfl Try.runUnderlying52 Try.sizeOf5 rfl) (Y9 [3] ?_))))
 refine Z9 rfl rfl (OpT_copyB (r:=104) (r2:=101) rfl Try.underlying30 TI.hsm5 rfl rfl rfl rfl (fun _ h=>blk_rd h (keyC_name hn) (by rw [bs_length,hn]) (Nat.le_refl _)) (bs_one _) (by rw [bs_length]; decide) (show over _ _ _=bs (nm++List.replicate 39 0) from by rw [List.take_of_length_le (by rw [bs_length,hn]; decide)]; exact over_bs _ nm _ 0 (by simp [hn])) ?_) ?_
 ·
  refine ⟨⟨rfl,rfl,rfl,rfl,trivial⟩,?_⟩
  refine (T9 4 rfl rfl (Pg9 rfl rfl) (Ad9 (by kernel_rfl) (X9 ?_)))
  refine Q9 ?_
  refine W_draw (N:=26) (by kernel_rfl) rfl [(0,_),(101,_),(102,_),(103,_)] ⟨rfl,rfl,rfl,rfl,trivial⟩ ?_
  refine (T9 0 rfl rfl (Pm9 rfl rfl) (T9 1 rfl rfl (Pu_sliceArrFrom 16 rfl Try.runUnderlying130 Try.sizeOf5 rfl rfl (by decide)) (T9 2 rfl rfl (F9 16 rfl rfl) (T9 3 rfl rfl (Pb9 (r:=101) rfl Try.isAgg3 rfl rfl (keyC_num hn)) (T9 4 rfl rfl (Pn9 rfl rfl rfl (run_shr _ 24 _ _ _ (by omega))) (T9 5 rfl rfl (Pu_conv rfl rfl (conv_byte _ _ Try.runUnderlying3 Try.runUnderlying5)) (T9 6 rfl rfl (F9 16 rfl rfl) (T9 7 rfl rfl (Pb9 (r:=101) rfl Try.isAgg3 rfl rfl (keyC_num hn)) (T9 8 rfl rfl (Pn9 rfl rfl rfl (run_shr _ 16 _ _ _ (by omega))) (T9 9 rfl rfl (Pu_conv rfl rfl (conv_byte _ _ Try.runUnderlying3 Try.runUnderlying5)) (T9 10 rfl rfl (F9 16 rfl rfl) (T9 11 rfl rfl (Pb9 (r:=101) rfl Try.isAgg3 rfl rfl (keyC_num hn)) (T9 12 rfl rfl (Pn9 rfl rfl rfl (run_shr _ 8 _ _ _ (by omega))) (T9 13 rfl rfl (Pu_conv rfl rfl (conv_byte _ _ Try.runUnderlying3 Try.runUnderlying5)) (T9 14 rfl rfl (F9 16 rfl rfl) (T9 15 rfl rfl (Pb9 (r:=101) rfl Try.isAgg3 rfl rfl (keyC_num hn)) (T9 16 rfl rfl (Pu_conv rfl rfl (conv_byte _ _ Try.runUnderlying3 Try.runUnderlying5)) (T9 17 rfl rfl (Pm9 rfl rfl) (T9 18 rfl rfl (Pn9 rfl rfl rfl (run_shr _ 8 _ _ _ (by omega))) (T9 19 rfl rfl (Pu_conv rfl rfl (conv_byte _ _ Try.runUnderlying3 Try.runUnderlying5)) (T9 20 rfl rfl (Pm9 rfl rfl) (T9 21 rfl rfl (Pu_conv rfl rfl (conv_byte _ _ Try.runUnderlying3 Try.runUnderlying5)) (T9 22 rfl rfl (Pm9 rfl rfl) (T9 23 rfl rfl (Pu_conv rfl rfl (conv_byte _ _ Try.runUnderlying3 Try.runUnderlying5)) (Y9 [24] ?_)))))))))))))))))))))))))
  refine Z9 rfl rfl (OpT_buildOnes (r:=105) (bs (numB q 4++numB mark 2++[byte b])) rfl rfl Try.runUnderlying30 Try.sizeOf5 Try.zeroValue5 rfl rfl (by decide) (by rw [numB_four,numB_two]; rfl) (bs_cells _) (fun v39=>⟨⟨rfl,rfl,rfl,rfl,trivial⟩,?_⟩)) ?_
  ·
   refine (Y9 [25] ?_)
   refine Z9 rfl rfl (OpT_copyB (r:=104) (r2:=105) rfl Try.underlying30 TI.hsm5 rfl rfl rfl rfl (fun _ h=>rp9 h) (bs_one _) (by rw [bs_length,List.length_append,hn]; decide) (show over _ _ _=bs (nm++numB q 4++numB mark 2++[byte b]++List.replicate 32 0) from by rw [List.take_of_length_le (by rw [bs_length]; simp [numB_length])]; exact over_bs _ (numB q 4++numB mark 2++[byte b]) _ (0 + 16) (by simp [numB_length,hn,List.take_append,List.drop_append])) ?_) ?_
   ·
    refine ⟨⟨rfl,rfl,rfl,rfl,trivial⟩,?_⟩
    refine (Ad9 (by kernel_rfl) (X9 ?_))
    refine Q9 ?_
    refine W_draw (N:=3) (by kernel_rfl) rfl [(0,_),(101,_),(102,_),(103,_)] ⟨rfl,rfl,rfl,rfl,trivial⟩ ?_
    refine (T9 0 rfl rfl (Pu_sliceArrFrom 23 rfl Try.runUnderlying130 Try.sizeOf5 rfl rfl (by decide)) (T9 1 rfl rfl (Pu_sliceArr rfl Try.runUnderlying29 Try.sizeOf5 rfl) (Y9 [2] ?_)))
    refine Z9 rfl rfl (OpT_copyB (r:=104) (r2:=102) rfl Try.underlying30 TI.hsm5 rfl rfl rfl rfl (fun _ h=>blk_all h ht) (bs_one _) (by rw [bs_length]; simp [numB_length,hn]) (show over _ _ _=bs (hdL nm q++numB mark 2++[byte b]++t) from by rw [List.take_of_length_le (by rw [bs_length,ht]; decide)]; exact over_bs _ t _ (0 + 23) (by unfold hdL; rw [List.take_left' (by simp [numB_length,hn]),List.drop_of_length_le (by simp [numB_length,hn,ht]),List.append_nil])) ?_) ?_
    ·
     refine ⟨⟨rfl,rfl,rfl,rfl,trivial⟩,?_⟩
     refine (Ad9 (by kernel_rfl) (X9 ?_))
     refine Q9 ?_
     have hh:(hdL nm q++numB mark 2++[byte b]++t).length=55:=by simp [hdL_length hn,numB_length,ht]
     refine R9 (L9 rfl (Pu_sliceArr rfl Try.runUnderlying130 Try.sizeOf5 rfl) (Lc9 rfl rfl (by decide) (Oc9 200 [0,101,102,103,104,105] [] rfl Try.call24 rfl rfl rfl (by decide) (by decide) (sum_spec _ (hdL nm q++numB mark 2++[byte b]++t) (by omega) _ (fun h hq=>rdP_cast (rs9 4 rfl (fun _ h=>blk_all (m:=55) h hh) h hq) rfl hh.symm)) (fun v45 Ps45 hR45=>?_))))
     obtain ⟨rfl,rfl⟩:=hR45
     refine (Lc09 rfl rfl (OpT_storeAll (r:=103) rfl Try.sizeOf29 rfl rfl rfl rfl ((bs_length _).trans (sha_length _)) (bs_one _) ?_))
     refine (N9 (X9 ?_))
     refine W_ret ?_
     exact Xq9 [] (Ps:=[]) (resC1 (r:=103) Try.results73 rfl Try.isAgg29 Try.sizeOf29 rfl ((bs_length _).trans (sha_length _))) rfl (by decide) ⟨rfl,rfl⟩
    exact An9
   exact An9
  exact An9
 exact An9
theorem ksteps_spec (nm:List UInt8) (hn:nm.length=16) (q:Int) (i a b:Nat) (hab:a≤b) (hb:b≤3) (t:List UInt8) (ht:t.length=32) (F:HP):CallsS Try.prog 64 #[keyV nm q,.int .i64 (i:Int),.int .i64 (a:Int),.int .i64 (b:Int),idV t] F [] (fun r Ps=>r=idV (walkC nm q i a (b - a) t)∧Ps=[]):=by
 refine callsS_enter Try.func64 rfl Try.ntmps64 (by simp) (fun E=>?_)
 refine Q9 (R9 (Lc9 rfl rfl (by decide) (OpT_box (r:=101) rfl rfl rfl (fun g101=>(Lc9 rfl rfl (by decide) (OpT_box (r:=102) rfl rfl rfl (fun g102=>(Lc9 rfl rfl (by decide) (OpT_alloc (r:=103) (cs:=(bs zeroId)) rfl (zero_run (by kernel_rfl:(Try.prog.info? 29).bind (·.zero)=some (.agg (bs zeroId).toArray))) rfl (fun g103=>(N9 (X9 (Q9 (Q9 (R9 (M9 rfl rfl (G9 rfl rfl (N9 (X9 ?_)))))))))))))))))))
 refine W_block ?_
 refine W_loop (α:=Nat) (fun x=>[(1,.int .i64 (i:Int)),(3,.int .i64 (b:Int)),(5,.pointer (some ⟨g101,0,none⟩)),(9,.pointer (some ⟨g102,0,none⟩)),(10,.pointer (some ⟨g103,0,none⟩)),(11,.int .i64 ((a + x:Nat):Int))]) (fun x=>[(0,F),(101,blk g101 104 (keyC nm q)),(102,blk g102 29 (bs (walkC nm q i a x t))),(103,blk g103 29 (bs zeroId))]) (fun x=>a + x≤b) (fun x=>b - (a + x)) (0) (by omega) (a9 rfl) (a9 rfl) (fun x hx=>?_)
 have hw:=walkC_length (nm:=nm) (q:=q) (i:=i) (a:=a) ht x
 refine Q9 (Q9 (R9 (M9 rfl rfl (M9 rfl rfl (L9 rfl (Pn9 rfl rfl rfl (run_lss _ _ _ _ _ _)) (N9 (X9 ?_)))))))
 refine C9 rfl (fun hc15=>?_) (fun hc15=>?_)
 ·
  have hlt:a + x < b:=by have:=of_decide_eq_true hc15; omega
  refine K9 (X9 ?_)
  refine Q9 ?_
  refine W_block ?_
  refine R9 (L9 rfl (Px9 (r:=101) rfl Try.isAgg104 Try.sizeOf104 rfl rfl (keyC_length hn) (load_all (keyC_length hn))) (M9 rfl rfl (M9 rfl rfl (L9 rfl (Px9 (r:=102) rfl Try.isAgg29 Try.sizeOf29 rfl rfl ((bs_length _).trans hw) (load_all ((bs_length _).trans hw))) (Lc9 rfl rfl (by decide) (Oc9 200 [0,101,102,103] [] rfl Try.call73 rfl rfl rfl (by decide) (by decide) (khash_spec nm hn q (i:Int) ((a + x:Nat):Int) _ hw _) (fun v22 Ps22 hR22=>?_)))))))
  obtain ⟨rfl,rfl⟩:=hR22
  refine (Lc09 rfl rfl (OpT_storeAll (r:=102) rfl Try.sizeOf29 rfl rfl rfl ((bs_length _).trans hw) ((bs_length _).trans (hashC_length _ _ _ _ _)) (bs_one _) ?_))
  refine (N9 (X_block (X9 ?_)))
  refine R9 (M9 rfl rfl (L9 rfl (Pn9 rfl rfl rfl (run_add _ _ _ _ _ (by omega))) (G9 rfl rfl (N9 ?_))))
  exact Xr9 (x + 1) (by omega) (by omega) ⟨rfl,rfl,rfl,rfl,rfl,lookV_eq rfl (int_eq (by omega)),trivial⟩ ⟨rfl,rfl,rfl,rfl,trivial⟩
 ·
  obtain rfl:b=a + x:=by have:=of_decide_eq_false hc15; omega
  have hbx:a + x - a=x:=by omega
  rw [hbx]
  refine W_exit (X_then_exit (X_then_exit (X_block_exit (X9 ?_))))
  refine Q9 (R9 (L9 rfl (Px9 (r:=102) rfl Try.isAgg29 Try.sizeOf29 rfl rfl ((bs_length _).trans hw) (load_all ((bs_length _).trans hw))) (Lc09 rfl rfl (OpT_storeAll (r:=103) rfl Try.sizeOf29 rfl rfl rfl rfl ((bs_length _).trans hw) (bs_one _) ?_))))
  refine (N9 (X9 ?_))
  refine W_ret ?_
  exact Xq9 [] (Ps:=[]) (resC1 (r:=103) Try.results64 rfl Try.isAgg29 Try.sizeOf29 rfl ((bs_length _).trans hw)) rfl (by decide) ⟨rfl,rfl⟩
open Go.RowKit
set_option maxRecDepth 8000

theorem kends_spec (nm:List UInt8) (hn:nm.length=16) (q:Int) (f:FuncId) (cap:List Value) (hc:∀ args w,(callFunc f args).run Try.prog w = .ok (.enter f args) w) (Y:Nat→List UInt8) (hY:∀ i,i < 133→(Y i).length=32) (sv:Value) (sig:List UInt8) (P1 P2 P3:HP)
  (hcl:∀ G:HP,(∀ h,G h→rdB sv sig h)→∀ i:Nat,i < 133→CallsS Try.prog f ([Value.int .i64 (i:Int)]++cap).toArray G [P1,P2,P3] (fun r Ps=>r=idV (Y i)∧Ps=[P1,P2,P3])) (F:HP) (hF:∀ h,F h→rdB sv sig h) :
  CallsS Try.prog 62 #[keyV nm q,.func (.func f) #[] cap.toArray] F [P1,P2,P3] (fun r Ps=>r=idV (endsC nm q Y)∧Ps=[P1,P2,P3]):=by
 refine callsS_enter Try.func62 rfl Try.ntmps62 (by simp) (fun E=>?_)
 refine Q9 (R9 (Lc9 rfl rfl (by decide) (OpT_box (r:=101) rfl rfl rfl (fun g101=>(Lc9 rfl rfl (by decide) (OpT_alloc (r:=102) (cs:=(bs zeroId)) rfl (zero_run (by kernel_rfl:(Try.prog.info? 29).bind (·.zero)=some (.agg (bs zeroId).toArray))) rfl (fun g102=>(N9 (X9 (Q9 (R9 (L9 rfl (Px9 (r:=101) rfl Try.isAgg104 Try.sizeOf104 rfl rfl (keyC_length hn) (load_all (keyC_length hn))) (Lc9 rfl rfl (by decide) (Oc9 200 [0,1,2,3,101,102] [] rfl Try.call72 rfl rfl rfl (by decide) (by decide) (khead_spec nm hn q 32896 _) (fun v9 Ps9 hR9=>?_)))))))))))))))
 subst hR9
 refine Lt9 (P':=rowB 5 v9 (hdL nm q++[128,128])) 200 rfl (fun h hp=>by rw [show numB 32896 2=[128,128] from by decide] at hp; exact hp) ?_
 refine (G9 rfl rfl (N9 (X9 ?_)))
 refine Q9 (Q9 (R9 (M9 rfl rfl (N9 (X9 ?_)))))
 refine W_block ?_
 refine W_loop (α:=Value × Nat) (fun y=>[(1,.func (.func f) #[] cap.toArray),(2,.pointer (some ⟨g101,0,none⟩)),(4,.pointer (some ⟨g102,0,none⟩)),(5,y.1),(10,.int .i64 (y.2:Int))]) (fun y=>[(0,F),(1,P1),(2,P2),(3,P3),(101,blk g101 104 (keyC nm q)),(102,blk g102 29 (bs zeroId)),(200,rowB 5 y.1 (hdL nm q++[128,128]++rowsC Y y.2))]) (fun y=>y.2≤133) (fun y=>133 - y.2) ((v9,0)) (by dsimp only; omega) ⟨rfl,rfl,rfl,rfl,rfl,trivial⟩ ⟨rfl,rfl,rfl,rfl,rfl,rfl,look_eq rfl (by rw [rowsC,List.append_nil]),trivial⟩ (fun y hy=>?_)
 have hyl:(rowsC Y y.2).length=32 * y.2:=rowsC_length fun i hi=>hY i (by omega)
 refine Q9 (R9 (L9 rfl (Pn9 rfl rfl rfl (run_lss _ _ _ _ _ _)) (N9 (X9 (Q9 ?_)))))
 refine C9 rfl (fun hc11=>?_) (fun hc11=>?_)
 ·
  have hlt:y.2 < 133:=by have:=of_decide_eq_true hc11; omega
  have hYl:=hY y.2 hlt
  refine K9 (X9 ?_)
  refine Q9 ?_
  refine W_block ?_
  refine Q9 (R9 (M9 rfl rfl (G9 rfl rfl (N9 (X9 (Q9 (R9 (M9 rfl rfl (M9 rfl rfl (Lc9 rfl rfl (by decide) (OpT_callV 700 [0,101,102,200] [1,2,3] rfl rfl hc rfl rfl rfl (by decide) (by decide) (hcl _ (rs9 0 rfl hF) y.2 hlt) (fun v15 Ps15 hR15=>?_))))))))))))
  obtain ⟨rfl,rfl⟩:=hR15
  refine (Lc9 rfl rfl (by decide) (OpT_alloc (r:=703) (cs:=(bs zeroId)) rfl (zero_run (by kernel_rfl:(Try.prog.info? 29).bind (·.zero)=some (.agg (bs zeroId).toArray))) rfl (fun g703=>(Lc09 rfl rfl (OpT_storeAll (r:=703) rfl Try.sizeOf29 rfl rfl rfl rfl ((bs_length _).trans hYl) (bs_one _) ?_)))))
  refine (N9 (X9 ?_))
  refine R9 (M9 rfl rfl (L9 rfl (Pu_sliceArr rfl Try.runUnderlying29 Try.sizeOf5 rfl) (Lc9 rfl rfl (by decide) (Oa9 (r:=200) (r2:=703) rfl Try.underlying30 TI.hi5 TI.hz5 TI.hs5 TI.hby5 TI.hzs5 (by decide) rfl rfl rfl rfl (fun _ h=>blk_all h hYl) (bs_one _) (by unfold maxLen; simp [hdL_length hn,hyl] <;> omega) (by simp [hdL_length hn,hyl] <;> omega) (fun v18=>?_)))))
  refine Lt9 (P':=rowB 5 v18 (hdL nm q++[128,128]++rowsC Y (y.2 + 1))) 200 rfl (fun h hp=>rowB_mk hp (rows_len hYl) (rows_step _ Y y.2)) ?_
  refine (G9 rfl rfl (N9 (X_block (X9 ?_))))
  refine R9 (L9 rfl (Pn9 rfl rfl rfl (run_add _ _ _ _ _ (by omega))) (M9 rfl rfl (N9 ?_)))
  refine X_ren 700 1 rfl ?_
  refine X_ren 701 2 rfl ?_
  refine X_ren 702 3 rfl ?_
  exact Xr9 (v18,y.2 + 1) (by dsimp only; omega) (by show 133 - (y.2 + 1) < 133 - y.2; omega) (a9 rfl) (a9 rfl)
 ·
  have hye:y.2=133:=by have:=of_decide_eq_false hc11; omega
  rw [hye] at hyl ⊢
  refine W_exit (X_then_exit (X_then_exit (X_block_exit (X9 ?_))))
  refine Q9 (R9 (M9 rfl rfl (Lc9 rfl rfl (by decide) (Oc9 300 [0,1,2,3,101,102,200] [] rfl Try.call24 rfl rfl rfl (by decide) (by decide) (sum_spec y.1 (hdL nm q++[128,128]++rowsC Y 133) (by simp [hdL_length hn,hyl]) _ (rs9 6 rfl rowB_rd)) (fun v21 Ps21 hR21=>?_)))))
  obtain ⟨rfl,rfl⟩:=hR21
  refine (Lc09 rfl rfl (OpT_storeAll (r:=102) rfl Try.sizeOf29 rfl rfl rfl rfl ((bs_length _).trans (sha_length _)) (bs_one _) ?_))
  refine (N9 (X9 ?_))
  refine W_ret ?_
  exact Xq9 [1,2,3] (Ps:=[_,_,_]) (resC1 (r:=102) Try.results62 rfl Try.isAgg29 Try.sizeOf29 rfl ((bs_length _).trans (sha_length _))) rfl (by decide) ⟨rfl,rfl⟩
open Go.RowKit
set_option maxRecDepth 8000

theorem kdigits_spec (nm:List UInt8) (hn:nm.length=16) (q:Int) (mv:Value) (c msg:List UInt8) (hcl:c.length=32) (hml:msg.length≤1000000) (F:HP) (hm:∀ h,F h→rdB mv msg h):CallsS Try.prog 61 #[keyV nm q,idV c,mv] F [] (fun r Ps=>r=nsV (digL (digB2 nm q c msg))∧Ps=[]):=by
 refine callsS_enter Try.func61 rfl Try.ntmps61 (by simp) (fun E=>?_)
 refine Q9 (R9 (Lc9 rfl rfl (by decide) (OpT_box (r:=101) rfl rfl rfl (fun g101=>(Lc9 rfl rfl (by decide) (OpT_box (r:=102) rfl rfl rfl (fun g102=>(Lc9 rfl rfl (by decide) (OpT_alloc (r:=103) (cs:=(nsC (List.replicate 133 0))) rfl (zero_run (by kernel_rfl:(Try.prog.info? 99).bind (·.zero)=some (nsV (List.replicate 133 0)))) rfl (fun g103=>(N9 (X9 ?_))))))))))))
 refine W_cut (α:=Nat) (fun z7=>[(6,.pointer (some ⟨g103,0,none⟩)),(7,.pointer (some ⟨z7,0,none⟩))]) (fun z7=>[(0,F),(103,blk g103 99 (nsC (List.replicate 133 0))),(181,blk z7 29 (bs (digB nm q c msg)))]) (fun z7=>True) ?_ (fun z7 _=>?_)
 ·
  refine W_draw (N:=8) (by kernel_rfl) rfl [(0,_),(101,_),(102,_),(103,_)] ⟨rfl,rfl,rfl,rfl,trivial⟩ ?_
  refine (T9 0 rfl rfl (Px9 (r:=101) rfl Try.isAgg104 Try.sizeOf104 rfl rfl (keyC_length hn) (load_all (keyC_length hn))) (T9 2 rfl rfl (Pu_sliceArr rfl Try.runUnderlying29 Try.sizeOf5 rfl) (T9 4 rfl rfl (Pm9 rfl rfl) (Y9 [1,6] ?_))))
  refine Z9 rfl rfl (Oc9 200 [0,101,102,103] [] rfl Try.call72 rfl rfl rfl (by decide) (by decide) (khead_spec nm hn q 33153 _) (fun v16 Ps16 hR16=>?_)) ?_
  ·
   subst hR16
   refine ⟨⟨rfl,rfl,rfl,rfl,trivial⟩,?_⟩
   refine AH_turn (P':=rowB 5 v16 (hdL nm q++[129,129])) 200 rfl (fun h hp=>by rw [show numB 33153 2=[129,129] from by decide] at hp; exact hp) ?_
   refine (Y9 [3,6] ?_)
   refine Z9 rfl rfl (Oa9 (r:=200) (r2:=102) rfl Try.underlying30 TI.hi5 TI.hz5 TI.hs5 TI.hby5 TI.hzs5 (by decide) rfl rfl rfl rfl (fun _ h=>blk_all h hcl) (bs_one _) (by unfold maxLen; simp [hdL_length hn,numB_length, *] <;> omega) (by simp [hdL_length hn,numB_length, *] <;> omega) (fun v18=>?_)) ?_
   ·
    refine ⟨⟨rfl,rfl,rfl,rfl,trivial⟩,?_⟩
    refine AH_turn (P':=rowB 5 v18 (hdL nm q++[129,129]++c)) 200 rfl (fun h hp=>rowB_mk hp (by simp [hdL_length hn,numB_length, *] <;> omega) (by simp only [bs_append])) ?_
    refine (Y9 [5,6] ?_)
    refine Z9 rfl rfl (Oc9 300 [0,101,102,103,200] [] rfl Try.call46 rfl rfl rfl (by decide) (by decide) (pair_spec v18 mv (hdL nm q++[129,129]++c) msg (by simp [hdL_length hn,hcl]) (by omega) _ (rs9 4 rfl rowB_rd) (rs9 0 rfl hm)) (fun v20 Ps20 hR20=>?_)) ?_
    ·
     obtain ⟨rfl,rfl⟩:=hR20
     refine ⟨⟨rfl,rfl,rfl,rfl,trivial⟩,?_⟩
     refine (Y9 [6] ?_)
     refine Z9 rfl rfl (OpT_alloc (r:=301) (cs:=(bs zeroId)) rfl (zero_run (by kernel_rfl:(Try.prog.info? 29).bind (·.zero)=some (.agg (bs zeroId).toArray))) rfl (fun g301=>⟨⟨rfl,rfl,rfl,rfl,trivial⟩,?_⟩)) ?_
     ·
      refine (Y9 [7] ?_)
      refine Ac09 rfl rfl rfl (OpT_storeAll (r:=301) rfl Try.sizeOf29 rfl rfl rfl rfl ((bs_length _).trans (sha_length _)) (bs_one _) ?_) ?_
      ·
       refine ⟨⟨rfl,rfl,rfl,rfl,trivial⟩,?_⟩
       refine (Ad9 (by kernel_rfl) ?_)
       refine X_ren 301 181 rfl ?_
       exact X_cut g301 trivial (a9 rfl) (a9 rfl)
      exact An9
     exact An9
    refine Z9 rfl rfl (OpT_alloc (r:=201) (cs:=(bs zeroId)) rfl (zero_run (by kernel_rfl:(Try.prog.info? 29).bind (·.zero)=some (.agg (bs zeroId).toArray))) rfl (fun g201=>⟨⟨rfl,rfl,rfl,rfl,trivial⟩,?_⟩)) ?_
    ·
     refine (Y9 [5] ?_)
     refine Z9 rfl rfl (Oc9 300 [0,101,102,103,200,201] [] rfl Try.call46 rfl rfl rfl (by decide) (by decide) (pair_spec v18 mv (hdL nm q++[129,129]++c) msg (by simp [hdL_length hn,hcl]) (by omega) _ (rs9 4 rfl rowB_rd) (rs9 0 rfl hm)) (fun v20 Ps20 hR20=>?_)) ?_
     ·
      obtain ⟨rfl,rfl⟩:=hR20
      refine ⟨⟨rfl,rfl,rfl,rfl,trivial⟩,?_⟩
      refine (Y9 [7] ?_)
      refine Ac09 rfl rfl rfl (OpT_storeAll (r:=201) rfl Try.sizeOf29 rfl rfl rfl rfl ((bs_length _).trans (sha_length _)) (bs_one _) ?_) ?_
      ·
       refine ⟨⟨rfl,rfl,rfl,rfl,trivial⟩,?_⟩
       refine (Ad9 (by kernel_rfl) ?_)
       refine X_ren 201 181 rfl ?_
       exact X_cut g201 trivial (a9 rfl) (a9 rfl)
      exact An9
     exact An9
    exact An9
   refine Z9 rfl rfl (OpT_alloc (r:=201) (cs:=(bs zeroId)) rfl (zero_run (by kernel_rfl:(Try.prog.info? 29).bind (·.zero)=some (.agg (bs zeroId).toArray))) rfl (fun g201=>⟨⟨rfl,rfl,rfl,rfl,trivial⟩,?_⟩)) ?_
   ·
    refine (Y9 [3] ?_)
    refine Z9 rfl rfl (Oa9 (r:=200) (r2:=102) rfl Try.underlying30 TI.hi5 TI.hz5 TI.hs5 TI.hby5 TI.hzs5 (by decide) rfl rfl rfl rfl (fun _ h=>blk_all h hcl) (bs_one _) (by unfold maxLen; simp [hdL_length hn,numB_length, *] <;> omega) (by simp [hdL_length hn,numB_length, *] <;> omega) (fun v18=>?_)) ?_
    ·
     refine ⟨⟨rfl,rfl,rfl,rfl,trivial⟩,?_⟩
     refine AH_turn (P':=rowB 5 v18 (hdL nm q++[129,129]++c)) 200 rfl (fun h hp=>rowB_mk hp (by simp [hdL_length hn,numB_length, *] <;> omega) (by simp only [bs_append])) ?_
     refine (Y9 [5] ?_)
     refine Z9 rfl rfl (Oc9 300 [0,101,102,103,200,201] [] rfl Try.call46 rfl rfl rfl (by decide) (by decide) (pair_spec v18 mv (hdL nm q++[129,129]++c) msg (by simp [hdL_length hn,hcl]) (by omega) _ (rs9 4 rfl rowB_rd) (rs9 0 rfl hm)) (fun v20 Ps20 hR20=>?_)) ?_
     ·
      obtain ⟨rfl,rfl⟩:=hR20
      refine ⟨⟨rfl,rfl,rfl,rfl,trivial⟩,?_⟩
      refine (Y9 [7] ?_)
      refine Ac09 rfl rfl rfl (OpT_storeAll (r:=201) rfl Try.sizeOf29 rfl rfl rfl rfl ((bs_length _).trans (sha_length _)) (bs_one _) ?_) ?_
      ·
       refine ⟨⟨rfl,rfl,rfl,rfl,trivial⟩,?_⟩
       refine (Ad9 (by kernel_rfl) ?_)
       refine X_ren 201 181 rfl ?_
       exact X_cut g201 trivial (a9 rfl) (a9 rfl)
      exact An9
     exact An9
    exact An9
   exact An9
  refine Z9 rfl rfl (OpT_alloc (r:=104) (cs:=(bs zeroId)) rfl (zero_run (by kernel_rfl:(Try.prog.info? 29).bind (·.zero)=some (.agg (bs zeroId).toArray))) rfl (fun g104=>⟨⟨rfl,rfl,rfl,rfl,trivial⟩,?_⟩)) ?_
  ·
   refine (Y9 [1] ?_)
   refine Z9 rfl rfl (Oc9 200 [0,101,102,103,104] [] rfl Try.call72 rfl rfl rfl (by decide) (by decide) (khead_spec nm hn q 33153 _) (fun v16 Ps16 hR16=>?_)) ?_
   ·
    subst hR16
    refine ⟨⟨rfl,rfl,rfl,rfl,trivial⟩,?_⟩
    refine AH_turn (P':=rowB 5 v16 (hdL nm q++[129,129])) 200 rfl (fun h hp=>by rw [show numB 33153 2=[129,129] from by decide] at hp; exact hp) ?_
    refine (Y9 [3] ?_)
    refine Z9 rfl rfl (Oa9 (r:=200) (r2:=102) rfl Try.underlying30 TI.hi5 TI.hz5 TI.hs5 TI.hby5 TI.hzs5 (by decide) rfl rfl rfl rfl (fun _ h=>blk_all h hcl) (bs_one _) (by unfold maxLen; simp [hdL_length hn,numB_length, *] <;> omega) (by simp [hdL_length hn,numB_length, *] <;> omega) (fun v18=>?_)) ?_
    ·
     refine ⟨⟨rfl,rfl,rfl,rfl,trivial⟩,?_⟩
     refine AH_turn (P':=rowB 5 v18 (hdL nm q++[129,129]++c)) 200 rfl (fun h hp=>rowB_mk hp (by simp [hdL_length hn,numB_length, *] <;> omega) (by simp only [bs_append])) ?_
     refine (Y9 [5] ?_)
     refine Z9 rfl rfl (Oc9 300 [0,101,102,103,104,200] [] rfl Try.call46 rfl rfl rfl (by decide) (by decide) (pair_spec v18 mv (hdL nm q++[129,129]++c) msg (by simp [hdL_length hn,hcl]) (by omega) _ (rs9 5 rfl rowB_rd) (rs9 0 rfl hm)) (fun v20 Ps20 hR20=>?_)) ?_
     ·
      obtain ⟨rfl,rfl⟩:=hR20
      refine ⟨⟨rfl,rfl,rfl,rfl,trivial⟩,?_⟩
      refine (Y9 [7] ?_)
      refine Ac09 rfl rfl rfl (OpT_storeAll (r:=104) rfl Try.sizeOf29 rfl rfl rfl rfl ((bs_length _).trans (sha_length _)) (bs_one _) ?_) ?_
      ·
       refine ⟨⟨rfl,rfl,rfl,rfl,trivial⟩,?_⟩
       refine (Ad9 (by kernel_rfl) ?_)
       refine X_ren 104 181 rfl ?_
       exact X_cut g104 trivial (a9 rfl) (a9 rfl)
      exact An9
     exact An9
    exact An9
   exact An9
  exact An9
 ·
  refine Q9 (R9 (Lc9 rfl rfl (by decide) (OpT_makeLen (r:=182) 32 34 rfl Try.underlying30 TI.hi5 TI.hz5 TI.hs5 rfl rfl rfl (by decide) (by rw [TI.hby5]; omega) (by unfold maxLen; omega) (fun v21=>?_))))
  refine Lt9 (P':=rowB 5 v21 (List.replicate 32 0)) 182 rfl (fun h hp=>rowB_mk hp (by simp) (by simp [bs]; rfl)) ?_
  refine (G9 rfl rfl (N9 (X9 ?_)))
  refine Q9 (R9 (M9 rfl rfl (L9 rfl (Pu_sliceArr rfl Try.runUnderlying29 Try.sizeOf5 rfl) (Lc9 rfl rfl (by decide) (OpT_copyRow (r:=182) (r2:=181) (xs':=bs (digB nm q c msg)) (by decide) rfl Try.underlying30 TI.hsm5 rfl rfl rfl rfl (fun _ h=>blk_all (m:=32) h (sha_length _)) (bs_one _) (by rw [bs_length]; decide) (by rw [show min 32 (List.replicate 32 (0:UInt8)).length=32 from rfl,List.take_of_length_le (by rw [bs_length]; exact Nat.le_of_eq (sha_length _))]; exact over_bs _ _ _ 0 (by have hh:(digB nm q c msg).length=32:=sha_length _; rw [hh,List.take_zero,List.nil_append,List.drop_of_length_le (by simp),List.append_nil])) ?_)))))
  refine Lt9 (P':=rowB 5 v21 (digB nm q c msg)) 182 rfl (fun h hp=>rowB_mk hp (by rw [List.length_replicate]; exact (sha_length _).symm) rfl) ?_
  refine (N9 (X9 ?_))
  refine Q9 (R9 (G9 rfl rfl (N9 (X9 (Q9 (Q9 (R9 (M9 rfl rfl (L9 rfl (Pl9 (r:=182) rfl Try.runUnderlying30 rfl rfl rowB_rd) (M9 rfl rfl (N9 (X9 ?_))))))))))))
  refine W_block ?_
  have hdl:(digB nm q c msg).length=32:=sha_length _
  refine W_loop (α:=Nat) (fun x=>[(6,.pointer (some ⟨g103,0,none⟩)),(8,v21),(9,.int .i64 (digSum (digB nm q c msg) (4 * x):Int)),(25,v21),(26,.int .i64 ((digB nm q c msg).length:Int)),(27,.int .i64 (x:Int))]) (fun x=>[(0,F),(103,blk g103 99 (nsC (List.replicate 133 0))),(182,rowB 5 v21 (digB nm q c msg))]) (fun x=>x≤32) (fun x=>32 - x) (0) (by omega) (a9 rfl) (a9 rfl) (fun x hx=>?_)
  have hds:=digSum_le (digB nm q c msg) (4 * x)
  refine Q9 (R9 (L9 rfl (Pn9 rfl rfl rfl (run_lss _ _ _ _ _ _)) (N9 (X9 (Q9 ?_)))))
  refine C9 rfl (fun hc28=>?_) (fun hc28=>?_)
  ·
   have hlt:x < 32:=by have:=of_decide_eq_true hc28; omega
   refine K9 (X9 ?_)
   refine Q9 ?_
   refine W_block ?_
   refine Q9 (R9 (L9 rfl (Pu_idxS1 (r:=182) rfl Try.runUnderlying30 Try.sizeOf5 rfl rfl rfl rowB_rd (by omega)) (L9 rfl (Py9 (r:=182) rfl Try.isAgg5 rfl rfl rowB_rd (bs_at1 (k:=x) (by omega))) (G9 rfl rfl (N9 (X9 (Q9 (R9 (M9 rfl rfl (N9 (X9 ?_)))))))))))
   refine W_block ?_
   have hb4:=bitSum_le (at0 (digB nm q c msg) x) 4
   refine W_loop (α:=Nat) (fun z=>[(6,.pointer (some ⟨g103,0,none⟩)),(8,v21),(9,.int .i64 ((digSum (digB nm q c msg) (4 * x):Int) + (bitSum (at0 (digB nm q c msg) x) z:Int))),(11,bv (at0 (digB nm q c msg) x)),(25,v21),(26,.int .i64 ((digB nm q c msg).length:Int)),(27,.int .i64 (x:Int)),(31,.int .i64 (z:Int))]) (fun z=>[(0,F),(103,blk g103 99 (nsC (List.replicate 133 0))),(182,rowB 5 v21 (digB nm q c msg))]) (fun z=>z≤4) (fun z=>4 - z) (0) (by omega) ⟨rfl,rfl,lookV_eq rfl (int_eq (by rw [bitSum]; omega)),rfl,rfl,rfl,rfl,rfl,trivial⟩ ⟨rfl,rfl,rfl,trivial⟩ (fun z hz=>?_)
   have hbz:=bitSum_le (at0 (digB nm q c msg) x) z
   refine Q9 (R9 (L9 rfl (Pn9 rfl rfl rfl (run_lss _ _ _ _ _ _)) (N9 (X9 (Q9 ?_)))))
   refine C9 rfl (fun hc32=>?_) (fun hc32=>?_)
   ·
    have hz4:z < 4:=by have:=of_decide_eq_true hc32; omega
    have hm4:(at0 (digB nm q c msg) x).toNat / 2 ^ (2 * z) % 4 < 4:=Nat.mod_lt _ (by decide)
    refine K9 (X9 ?_)
    refine Q9 ?_
    refine W_block ?_
    refine Q9 (R9 (M9 rfl rfl (G9 rfl rfl (N9 (X9 (R9 (M9 rfl rfl (M9 rfl rfl (M9 rfl rfl (L9 rfl (Pn9 rfl rfl rfl (run_mul _ _ _ _ _ (by omega))) ?_))))))))))
    rw [show (2:Int) * (z:Int)=((2 * z:Nat):Int) by omega]
    refine (L9 rfl (Pn9 rfl rfl rfl (run_shrB _ (2 * z) (by omega) _ _ _)) (L9 rfl (Pn9 rfl rfl rfl (run_and3 _ shr_lt _ _ _)) (L9 rfl (Pu_conv rfl rfl (conv_nat8 _ (by omega) Try.runUnderlying5 Try.runUnderlying3)) (L9 rfl (Pn9 rfl rfl rfl (run_sub _ _ _ _ _ (by omega))) (L9 rfl (Pn9 rfl rfl rfl (run_add _ _ _ _ _ (by omega))) (G9 rfl rfl (N9 (X_block (X9 ?_)))))))))
    refine R9 (L9 rfl (Pn9 rfl rfl rfl (run_add _ _ _ _ _ (by omega))) (M9 rfl rfl (N9 ?_)))
    exact Xr9 (z + 1) (by omega) (by omega) ⟨rfl,rfl,lookV_eq rfl (int_eq (by rw [bitSum]; omega)),rfl,rfl,rfl,rfl,rfl,trivial⟩ ⟨rfl,rfl,rfl,trivial⟩
   ·
    obtain rfl:z=4:=by have:=of_decide_eq_false hc32; omega
    refine W_exit (X_then_exit (X_then_exit (X_block_exit (X_block (X9 ?_)))))
    refine R9 (L9 rfl (Pn9 rfl rfl rfl (run_add _ _ _ _ _ (by omega))) (M9 rfl rfl (N9 ?_)))
    exact Xr9 (x + 1) (by omega) (by omega) ⟨rfl,rfl,lookV_eq rfl (int_eq (by have:=digSum_four (digB nm q c msg) x; omega)),rfl,rfl,rfl,trivial⟩ ⟨rfl,rfl,rfl,trivial⟩
  ·
   obtain rfl:x=32:=by have:=of_decide_eq_false hc28; omega
   refine W_exit (X_then_exit (X_then_exit (X_block_exit (X9 ?_))))
   refine Q9 (R9 (M9 rfl rfl (L9 rfl (Pn9 rfl rfl rfl (run_mul _ _ _ _ _ (by omega))) ?_)))
   rw [show (digSum (digB nm q c msg) (4 * 32):Int) * 64=((64 * digSum (digB nm q c msg) 128:Nat):Int) by rw [show 4 * 32=128 from rfl]; omega]
   refine (G9 rfl rfl (N9 (X9 ?_)))
   refine Q9 (R9 (M9 rfl rfl (M9 rfl rfl (L9 rfl (Pn9 rfl rfl rfl (run_shr _ 8 _ _ _ (by omega))) (L9 rfl (Pu_conv rfl rfl (conv_byte _ _ Try.runUnderlying3 Try.runUnderlying5)) (M9 rfl rfl (L9 rfl (Pu_conv rfl rfl (conv_byte _ _ Try.runUnderlying3 Try.runUnderlying5)) (Lc9 rfl rfl (by decide) (OpT_buildOnes (r:=104) (bs (numB ((64 * digSum (digB nm q c msg) 128:Nat):Int) 2)) rfl rfl Try.runUnderlying30 Try.sizeOf5 Try.zeroValue5 rfl rfl (by decide) (by rw [numB_two]; rfl) (bs_cells _) (fun v53=>(Lc9 rfl rfl (by decide) (Oa9 (r:=182) (r2:=104) rfl Try.underlying30 TI.hi5 TI.hz5 TI.hs5 TI.hby5 TI.hzs5 (by decide) rfl rfl rfl rfl (fun _ h=>rp9 h) (bs_one _) (by unfold maxLen; omega) (by omega) (fun v54=>?_)))))))))))))
   refine Lt9 (P':=rowB 5 v54 (digB2 nm q c msg)) 182 rfl (fun h hp=>rowB_mk hp (by unfold digB2; rw [List.length_append,numB_length]) (by unfold digB2; rw [bs_append])) ?_
   refine (G9 rfl rfl (N9 (X9 ?_)))
   refine Q9 (R9 (Lc9 rfl rfl (by decide) (OpT_alloc (r:=105) (cs:=(nsC (List.replicate 133 0))) rfl (zero_run (by kernel_rfl:(Try.prog.info? 99).bind (·.zero)=some (nsV (List.replicate 133 0)))) rfl (fun g105=>(N9 (X9 (Q9 (Q9 (R9 (M9 rfl rfl (N9 (X9 ?_))))))))))))
   refine W_block ?_
   have hd2:=digB2_length nm q c msg
   refine W_loop (α:=Nat) (fun x=>[(6,.pointer (some ⟨g103,0,none⟩)),(8,v54),(13,.pointer (some ⟨g105,0,none⟩)),(55,.int .i64 (x:Int))]) (fun x=>[(0,F),(103,blk g103 99 (nsC (List.replicate 133 0))),(182,rowB 5 v54 (digB2 nm q c msg)),(105,blk g105 99 (nsC (digZ (digB2 nm q c msg) x)))]) (fun x=>x≤133) (fun x=>133 - x) (0) (by omega) ⟨rfl,rfl,rfl,rfl,trivial⟩ ⟨rfl,rfl,rfl,look_eq rfl (by rw [digZ_get0]; rfl),trivial⟩ (fun x hx=>?_)
   have hzl:=digZ_length (digB2 nm q c msg) hx
   refine Q9 (R9 (L9 rfl (Pn9 rfl rfl rfl (run_lss _ _ _ _ _ _)) (N9 (X9 (Q9 ?_)))))
   refine C9 rfl (fun hc56=>?_) (fun hc56=>?_)
   ·
    have hlt:x < 133:=by have:=of_decide_eq_true hc56; omega
    refine K9 (X9 ?_)
    refine Q9 ?_
    refine W_block ?_
    refine Q9 (R9 (M9 rfl rfl (G9 rfl rfl (N9 (X9 (R9 (M9 rfl rfl (M9 rfl rfl (M9 rfl rfl (L9 rfl (Pn9 rfl rfl rfl (run_quo _ _ _ _ _ (by omega))) ?_))))))))))
    rw [show (x:Int) / 4=((x / 4:Nat):Int) by omega]
    refine (L9 rfl (Pu_idxS1 (r:=182) rfl Try.runUnderlying30 Try.sizeOf5 rfl rfl rfl rowB_rd (by omega)) (L9 rfl (Py9 (r:=182) rfl Try.isAgg5 rfl rfl rowB_rd (bs_at1 (k:=x / 4) (by omega))) (M9 rfl rfl (L9 rfl (Pn9 rfl rfl rfl (run_rem _ _ _ _ _ (by omega))) ?_))))
    rw [show (x:Int) % 4=((x % 4:Nat):Int) by omega]
    refine (L9 rfl (Pn9 rfl rfl rfl (run_mul _ _ _ _ _ (by omega))) (L9 rfl (Pn9 rfl rfl rfl (run_sub _ _ _ _ _ (by omega))) ?_))
    rw [show (6:Int) - 2 * ((x % 4:Nat):Int)=((6 - 2 * (x % 4):Nat):Int) by omega]
    refine (L9 rfl (Pn9 rfl rfl rfl (run_shrB _ (6 - 2 * (x % 4)) (by omega) _ _ _)) (L9 rfl (Pn9 rfl rfl rfl (run_and3 _ shr_lt _ _ _)) (L9 rfl (Pu_conv rfl rfl (conv_nat8 _ (by have:=Nat.mod_lt ((at0 (digB2 nm q c msg) (x / 4)).toNat / 2 ^ (6 - 2 * (x % 4))) (show 0 < 4 by decide); omega) Try.runUnderlying5 Try.runUnderlying3)) (L9 rfl (Pu_idxA rfl Try.runUnderlying99 Try.sizeOf3 rfl rfl (by omega)) (Lc09 rfl rfl (OpT_storeB1 (r:=105) rfl Try.sizeOf3 rfl rfl rfl rfl (by rw [nsC_length,hzl]; omega) ((congrArg (fun q=>List.set _ q _) (Nat.zero_add _)).trans (digZ_set _ hlt)) ?_))))))
    refine (N9 (X_block (X9 ?_)))
    refine R9 (L9 rfl (Pn9 rfl rfl rfl (run_add _ _ _ _ _ (by omega))) (M9 rfl rfl (N9 ?_)))
    exact Xr9 (x + 1) (by omega) (by omega) (a9 rfl) (a9 rfl)
   ·
    obtain rfl:x=133:=by have:=of_decide_eq_false hc56; omega
    rw [digZ_full]
    have hll:=digL_length (digB2 nm q c msg)
    refine W_exit (X_then_exit (X_then_exit (X_block_exit (X9 ?_))))
    refine Q9 (R9 (L9 rfl (Px9 (r:=105) rfl Try.isAgg99 Try.sizeOf99 rfl rfl ((nsC_length _).trans hll) (load_all ((nsC_length _).trans hll))) (Lc09 rfl rfl (OpT_storeAll (r:=103) rfl Try.sizeOf99 rfl rfl rfl rfl ((nsC_length _).trans hll) (nsC_one _) ?_))))
    refine (N9 (X9 ?_))
    refine W_ret ?_
    exact Xq9 [] (Ps:=[]) (resC1 (r:=103) Try.results61 rfl Try.isAgg99 Try.sizeOf99 rfl ((nsC_length _).trans hll)) rfl (by decide) ⟨rfl,rfl⟩
open Go.RowKit
set_option maxRecDepth 8000

theorem key_build {nm:List UInt8} {q:Int} (hn:nm.length=16):Value.agg (((over (keyC (List.replicate 16 0) 0) 0 (bs nm)).set 16 (.int .i64 q))).toArray=keyV nm q:=by
  unfold keyV keyC
  congr 2
  have h:over (bs (List.replicate 16 0)++[Value.int .i64 0]) 0 (bs nm)=bs nm++[Value.int .i64 0]:=by
    unfold over
    rw [bs_length,hn,List.take_zero,List.nil_append]
    rfl
  rw [h,List.set_append_right _ _ (by rw [bs_length]; omega),bs_length,hn]
  rfl
theorem kback1_spec (nm:List UInt8) (hn:nm.length=16) (q:Int) (c msg sig:List UInt8) (hsl:sig.length=4292) (sv:Value) (g1 g2 g3:Nat) (i:Nat) (hi:i < 133) (F:HP) (hsg:∀ h,F h→rdB sv sig h):CallsS Try.prog 63 #[.int .i64 (i:Int),.pointer (some ⟨g1,0,none⟩),.pointer (some ⟨g2,0,none⟩),.pointer (some ⟨g3,0,none⟩)] F [blk g1 30 [sv],blk g2 104 (keyC nm q),blk g3 99 (nsC (digL (digB2 nm q c msg)))] (fun r Ps=>r=idV (bckY nm q c msg sig i)∧Ps=[blk g1 30 [sv],blk g2 104 (keyC nm q),blk g3 99 (nsC (digL (digB2 nm q c msg)))]):=by
 have hdx:=digA_lt nm q c msg i
 have hzl:((sig.drop (36 + 32 * i)).take 32).length=32:=by rw [List.length_take,List.length_drop]; omega
 refine callsS_enter Try.func63 rfl Try.ntmps63 (by simp) (fun E=>?_)
 refine Q9 (R9 (Lc9 rfl rfl (by decide) (OpT_alloc (r:=101) (cs:=(bs zeroId)) rfl (zero_run (by kernel_rfl:(Try.prog.info? 29).bind (·.zero)=some (.agg (bs zeroId).toArray))) rfl (fun g101=>(N9 (X9 (Q9 (R9 (Lc9 rfl rfl (by decide) (OpT_alloc (r:=102) (cs:=(bs zeroId)) rfl (zero_run (by kernel_rfl:(Try.prog.info? 29).bind (·.zero)=some (.agg (bs zeroId).toArray))) rfl (fun g102=>(N9 (X9 (Q9 ?_))))))))))))))
 refine W_draw (N:=7) (by kernel_rfl) rfl [(0,_),(1,_),(2,_),(3,_),(101,_)] ⟨rfl,rfl,rfl,rfl,rfl,trivial⟩ ?_
 refine (T9 0 rfl rfl (Pu_sliceArr rfl Try.runUnderlying29 Try.sizeOf5 rfl) (T9 1 rfl rfl (Pb9 (r:=1) rfl Try.isAgg30 rfl rfl rfl) (T9 2 rfl rfl (Pm9 rfl rfl) (T9 3 rfl rfl (Pn9 rfl rfl rfl (run_mul _ _ _ _ _ (by omega))) (T9 4 rfl rfl (Pn9 rfl rfl rfl (run_add _ _ _ _ _ (by omega))) (T9 5 rfl rfl (Pu_slice (r:=0) (a:=36 + 32 * i) (b:=sig.length) rfl Try.runUnderlying30 Try.sizeOf5 rfl rfl hsg (.inr ⟨_,_,_,rfl,rfl,(by omega)⟩) (.inl ⟨rfl,rfl⟩) (by omega) (by omega)) (Y9 [6] ?_)))))))
 refine Z9 rfl rfl (OpT_copyB (r:=102) (r2:=0) rfl Try.underlying30 TI.hsm5 rfl rfl rfl rfl (fun h hq=>rdB_tail (hsg h hq) (by omega)) (bs_one _) (by rw [bs_length,zeroId_length]; omega) (show over _ _ _=bs ((sig.drop (36 + 32 * i)).take 32) from id_copy (by rw [List.length_drop]; omega)) ?_) ?_
 ·
  refine ⟨⟨rfl,rfl,rfl,rfl,rfl,trivial⟩,?_⟩
  refine (Ad9 (by kernel_rfl) (X9 ?_))
  refine Q9 ?_
  refine W_draw (N:=8) (by kernel_rfl) rfl [(0,_),(1,_),(2,_),(3,_),(102,_)] ⟨rfl,rfl,rfl,rfl,rfl,trivial⟩ ?_
  refine (T9 0 rfl rfl (Px9 (r:=2) rfl Try.isAgg104 Try.sizeOf104 rfl rfl (keyC_length hn) (load_all (keyC_length hn))) (T9 1 rfl rfl (Pm9 rfl rfl) (T9 2 rfl rfl (Pm9 rfl rfl) (T9 3 rfl rfl (Pu_idxA rfl Try.runUnderlying99 Try.sizeOf3 rfl rfl (by omega)) (T9 4 rfl rfl (Pb9 (r:=3) rfl Try.isAgg3 rfl rfl (digA_get nm q c msg hi)) (T9 5 rfl rfl (Px9 (r:=102) rfl Try.isAgg29 Try.sizeOf29 rfl rfl ((bs_length _).trans hzl) (load_all ((bs_length _).trans hzl))) (Y9 [6] ?_)))))))
  refine Z9 rfl rfl (Oc9 200 [0,1,2,3,101,102] [] rfl Try.call64 rfl rfl rfl (by decide) (by decide) (ksteps_spec nm hn q i (digA nm q c msg i) 3 (by omega) (by omega) ((sig.drop (36 + 32 * i)).take 32) hzl _) (fun v20 Ps20 hR20=>?_)) ?_
  ·
   obtain ⟨rfl,rfl⟩:=hR20
   refine ⟨⟨rfl,rfl,rfl,rfl,rfl,trivial⟩,?_⟩
   refine (Y9 [7] ?_)
   refine Ac09 rfl rfl rfl (OpT_storeAll (r:=101) rfl Try.sizeOf29 rfl rfl rfl rfl ((bs_length _).trans (walkC_length hzl _)) (bs_one _) ?_) ?_
   ·
    refine ⟨⟨rfl,rfl,rfl,rfl,rfl,trivial⟩,?_⟩
    refine (Ad9 (by kernel_rfl) (X9 ?_))
    refine W_ret ?_
    exact Xq9 [1,2,3] (Ps:=[_,_,_]) (resC1 (r:=101) Try.results63 rfl Try.isAgg29 Try.sizeOf29 rfl ((bs_length _).trans (walkC_length hzl _))) rfl (by decide) ⟨rfl,rfl⟩
   exact An9
  exact An9
 exact An9
theorem kback_spec (nm:List UInt8) (hn:nm.length=16) (q:Int) (mv sv:Value) (msg sig:List UInt8) (hml:msg.length≤1000000) (F:HP) (hm:∀ h,F h→rdB mv msg h) (hsg:∀ h,F h→rdB sv sig h):CallsS Try.prog 41 #[idV nm,.int .i64 q,mv,sv] F [] (fun r Ps=>r = .tuple #[idV (bckR nm q msg sig),.int .i64 (bckE sig)]∧Ps=[]):=by
 refine callsS_enter Try.func41 rfl Try.ntmps41 (by simp) (fun E=>?_)
 refine Q9 ?_
 refine W_fact (r:=0) rfl (fun h hp=>rd_one (hsg h hp)) (fun hso=>?_)
 refine R9 (Lc9 rfl rfl (by decide) (OpT_box (r:=101) rfl rfl rfl (fun g101=>(Lc9 rfl rfl (by decide) (OpT_box (r:=102) rfl rfl ((cells_one hso).trans (rfl:#[sv]=[sv].toArray)) (fun g102=>(Lc9 rfl rfl (by decide) (OpT_alloc (r:=103) (cs:=(bs zeroId)) rfl (zero_run (by kernel_rfl:(Try.prog.info? 29).bind (·.zero)=some (.agg (bs zeroId).toArray))) rfl (fun g103=>(G9 rfl rfl (N9 (X9 (Q9 (Q9 ?_))))))))))))))
 rcases Bool.eq_false_or_eq_true (!decide ((sig.length:Int)=4292)) with hsp1 | hsp1
 ·
  have hno:=okB_len hsp1
  refine R9 (L9 rfl (Pb9 (r:=102) rfl Try.isAgg30 rfl rfl rfl) (L9 rfl (Pl9 (r:=0) rfl Try.runUnderlying30 rfl rfl hsg) (L9 rfl (Pn9 rfl rfl rfl (run_neq _ _ _ _ _ _)) (M9 rfl rfl (WL_gF rfl rfl rfl (by rw [hsp1]; rfl) rfl (by decide) (WL_gF rfl rfl rfl (by rw [hsp1]; rfl) rfl (by decide) (WL_gF rfl rfl rfl (by rw [hsp1]; rfl) rfl (by decide) (WL_gF rfl rfl rfl (by rw [hsp1]; rfl) rfl (by decide) (L9 rfl (Pu_pickT rfl rfl hsp1 rfl) (M9 rfl rfl (WL_gF rfl rfl rfl (by first | rfl | (rw [hsp1]; rfl)) rfl (by decide) (WL_gF rfl rfl rfl (by first | rfl | (rw [hsp1]; rfl)) rfl (by decide) (WL_gF rfl rfl rfl (by first | rfl | (rw [hsp1]; rfl)) rfl (by decide) (WL_gF rfl rfl rfl (by first | rfl | (rw [hsp1]; rfl)) rfl (by decide) (L9 rfl (Pu_pickT rfl rfl rfl rfl) (M9 rfl rfl (WL_gF rfl rfl rfl (by first | rfl | (rw [hsp1]; rfl)) rfl (by decide) (WL_gF rfl rfl rfl (by first | rfl | (rw [hsp1]; rfl)) rfl (by decide) (WL_gF rfl rfl rfl (by first | rfl | (rw [hsp1]; rfl)) rfl (by decide) (WL_gF rfl rfl rfl (by first | rfl | (rw [hsp1]; rfl)) rfl (by decide) (L9 rfl (Pu_pickT rfl rfl rfl rfl) (M9 rfl rfl (WL_gF rfl rfl rfl (by first | rfl | (rw [hsp1]; rfl)) rfl (by decide) (WL_gF rfl rfl rfl (by first | rfl | (rw [hsp1]; rfl)) rfl (by decide) (WL_gF rfl rfl rfl (by first | rfl | (rw [hsp1]; rfl)) rfl (by decide) (WL_gF rfl rfl rfl (by first | rfl | (rw [hsp1]; rfl)) rfl (by decide) (L9 rfl (Pu_pickT rfl rfl rfl rfl) (N9 (X9 ?_)))))))))))))))))))))))))))))
  refine W_true rfl (rfl) ?_
  refine Q9 (R9 (L9 rfl (Pu_idZero rfl) (Lc09 rfl rfl (OpT_storeAll (r:=103) rfl Try.sizeOf29 rfl rfl rfl rfl rfl (bs_one _) ?_))))
  refine (G9 rfl rfl (N9 (X9 ?_)))
  refine W_ret (X_then_ret ?_)
  exact Xq9 [] (Ps:=[]) (resC2 (r:=103) Try.results41 rfl rfl Try.isAgg29 Try.sizeOf29 rfl rfl) rfl (by decide) ⟨by unfold bckR bckE; rw [hno]; rfl,rfl⟩
 ·
  have hlen:sig.length=4292:=by simp at hsp1; omega
  refine R9 (L9 rfl (Pb9 (r:=102) rfl Try.isAgg30 rfl rfl rfl) (L9 rfl (Pl9 (r:=0) rfl Try.runUnderlying30 rfl rfl hsg) (L9 rfl (Pn9 rfl rfl rfl (run_neq _ _ _ _ _ _)) (M9 rfl rfl (WL_gPT rfl rfl rfl (by rw [hsp1]; rfl) rfl (by decide) (Pb9 (r:=102) rfl Try.isAgg30 rfl rfl rfl) (WL_gPT rfl rfl rfl (by rw [hsp1]; rfl) rfl (by decide) (Pu_idxS1 (r:=0) rfl Try.runUnderlying30 Try.sizeOf5 rfl rfl rfl hsg (by omega)) (WL_gPT rfl rfl rfl (by rw [hsp1]; rfl) rfl (by decide) (Py9 (r:=0) rfl Try.isAgg5 rfl rfl hsg (bs_at1 (k:=0) (by omega))) (WL_gPT rfl rfl rfl (by rw [hsp1]; rfl) rfl (by decide) (Pn9 rfl rfl rfl (run_neq _ _ _ _ _ _)) (L9 rfl (Pu_pickF rfl rfl hsp1 rfl) (M9 rfl rfl (Lg9 rfl rfl rfl rfl (by decide) (fun hb=>(Pb9 (r:=102) rfl Try.isAgg30 rfl rfl rfl)) (Lg9 rfl rfl rfl rfl (by decide) (fun hb=>(Pu_idxS1 (r:=0) rfl Try.runUnderlying30 Try.sizeOf5 (ev_gv rfl hb) rfl rfl hsg (by omega))) (Lg9 rfl rfl rfl rfl (by decide) (fun hb=>(Py9 (r:=0) rfl Try.isAgg5 (ev_gv rfl hb) rfl hsg (bs_at1 (k:=1) (by omega)))) (Lg9 rfl rfl rfl rfl (by decide) (fun hb=>(Pn9 rfl (ev_gv rfl hb) rfl (run_neq _ _ _ _ _ _))) (L9 rfl (Pu_or rfl rfl rfl) (M9 rfl rfl (Lg9 rfl rfl rfl rfl (by decide) (fun hb=>(Pb9 (r:=102) rfl Try.isAgg30 rfl rfl rfl)) (Lg9 rfl rfl rfl rfl (by decide) (fun hb=>(Pu_idxS1 (r:=0) rfl Try.runUnderlying30 Try.sizeOf5 (ev_gv rfl hb) rfl rfl hsg (by omega))) (Lg9 rfl rfl rfl rfl (by decide) (fun hb=>(Py9 (r:=0) rfl Try.isAgg5 (ev_gv rfl hb) rfl hsg (bs_at1 (k:=2) (by omega)))) (Lg9 rfl rfl rfl rfl (by decide) (fun hb=>(Pn9 rfl (ev_gv rfl hb) rfl (run_neq _ _ _ _ _ _))) (L9 rfl (Pu_or rfl rfl rfl) (M9 rfl rfl (Lg9 rfl rfl rfl rfl (by decide) (fun hb=>(Pb9 (r:=102) rfl Try.isAgg30 rfl rfl rfl)) (Lg9 rfl rfl rfl rfl (by decide) (fun hb=>(Pu_idxS1 (r:=0) rfl Try.runUnderlying30 Try.sizeOf5 (ev_gv rfl hb) rfl rfl hsg (by omega))) (Lg9 rfl rfl rfl rfl (by decide) (fun hb=>(Py9 (r:=0) rfl Try.isAgg5 (ev_gv rfl hb) rfl hsg (bs_at1 (k:=3) (by omega)))) (Lg9 rfl rfl rfl rfl (by decide) (fun hb=>(Pn9 rfl (ev_gv rfl hb) rfl (run_neq _ _ _ _ _ _))) (L9 rfl (Pu_or rfl rfl rfl) (N9 (X9 ?_)))))))))))))))))))))))))))))
  refine C9 rfl (fun hc39=>?_) (fun hc39=>?_)
  ·
   have hno:okB sig=false:=by rw [okB_cells hlen] at hc39; simpa using hc39
   refine Q9 (R9 (L9 rfl (Pu_idZero rfl) (Lc09 rfl rfl (OpT_storeAll (r:=103) rfl Try.sizeOf29 rfl rfl rfl rfl rfl (bs_one _) ?_))))
   refine (G9 rfl rfl (N9 (X9 ?_)))
   refine W_ret (X_then_ret ?_)
   exact Xq9 [] (Ps:=[]) (resC2 (r:=103) Try.results41 rfl rfl Try.isAgg29 Try.sizeOf29 rfl rfl) rfl (by decide) ⟨by unfold bckR bckE; rw [hno]; rfl,rfl⟩
  ·
   have hyes:okB sig=true:=by rw [okB_cells hlen] at hc39; simpa using hc39
   have hcl:((sig.drop 4).take 32).length=32:=by rw [List.length_take,List.length_drop]; omega
   refine K9 (X9 ?_)
   refine Q9 (R9 (L9 rfl (Px9 (r:=101) rfl Try.isAgg52 Try.sizeOf52 rfl rfl ((bs_length _).trans hn) (load_all ((bs_length _).trans hn))) (M9 rfl rfl (L9 rfl (Pu_build (V:=keyV nm q) [(0,16),(16,1)] (keyC (List.replicate 16 0) 0) rfl rfl (by kernel_rfl) (by kernel_rfl) (.many rfl ((bs_length _).trans hn) (by simp [keyC,bs_length]) rfl (.one rfl rfl (by rw [over_length _ _ _ (by rw [bs_length,hn,keyC_length rfl]; decide),keyC_length rfl]; decide) rfl (.nil _))) (key_build hn)) (Lc9 rfl rfl (by decide) (OpT_alloc (r:=104) rfl (zero_run (by kernel_rfl:(Try.prog.info? 104).bind (·.zero)=some (.agg (keyC (List.replicate 16 0) 0).toArray))) rfl (fun g104=>(Lc09 rfl rfl (OpT_storeAll (r:=104) rfl Try.sizeOf104 rfl rfl rfl (keyC_length rfl) (keyC_length hn) (keyC_one _ _) ?_)))))))))
   refine (N9 (X9 ?_))
   refine Q9 (R9 (Lc9 rfl rfl (by decide) (OpT_alloc (r:=105) (cs:=(bs zeroId)) rfl (zero_run (by kernel_rfl:(Try.prog.info? 29).bind (·.zero)=some (.agg (bs zeroId).toArray))) rfl (fun g105=>(N9 (X9 (Q9 ?_)))))))
   refine W_draw (N:=4) (by kernel_rfl) rfl [(0,_),(101,_),(102,_),(103,_),(104,_)] ⟨rfl,rfl,rfl,rfl,rfl,trivial⟩ ?_
   refine (T9 0 rfl rfl (Pu_sliceArr rfl Try.runUnderlying29 Try.sizeOf5 rfl) (T9 1 rfl rfl (Pb9 (r:=102) rfl Try.isAgg30 rfl rfl rfl) (T9 2 rfl rfl (Pu_slice (r:=0) (a:=4) (b:=sig.length) rfl Try.runUnderlying30 Try.sizeOf5 rfl rfl hsg (.inr ⟨_,_,_,rfl,rfl,rfl⟩) (.inl ⟨rfl,rfl⟩) (by omega) (by omega)) (Y9 [3] ?_))))
   refine Z9 rfl rfl (OpT_copyB (r:=105) (r2:=0) rfl Try.underlying30 TI.hsm5 rfl rfl rfl rfl (fun h hq=>rdB_tail (hsg h hq) (by omega)) (bs_one _) (by rw [bs_length,zeroId_length]; omega) (show over _ _ _=bs ((sig.drop 4).take 32) from id_copy (by rw [List.length_drop]; omega)) ?_) ?_
   ·
    refine ⟨⟨rfl,rfl,rfl,rfl,rfl,trivial⟩,?_⟩
    refine (Ad9 (by kernel_rfl) (X9 ?_))
    refine Q9 (R9 (L9 rfl (Px9 (r:=104) rfl Try.isAgg104 Try.sizeOf104 rfl rfl (keyC_length hn) (load_all (keyC_length hn))) (L9 rfl (Px9 (r:=105) rfl Try.isAgg29 Try.sizeOf29 rfl rfl ((bs_length _).trans hcl) (load_all ((bs_length _).trans hcl))) (M9 rfl rfl (Lc9 rfl rfl (by decide) (Oc9 200 [0,101,102,103,104,105] [] rfl Try.call61 rfl rfl rfl (by decide) (by decide) (kdigits_spec nm hn q _ ((sig.drop 4).take 32) msg hcl hml _ (rs9 0 rfl hm)) (fun v51 Ps51 hR51=>?_)))))))
    obtain ⟨rfl,rfl⟩:=hR51
    refine (Lc9 rfl rfl (by decide) (OpT_alloc (r:=201) (cs:=(nsC (List.replicate 133 0))) rfl (zero_run (by kernel_rfl:(Try.prog.info? 99).bind (·.zero)=some (nsV (List.replicate 133 0)))) rfl (fun g201=>(Lc09 rfl rfl (OpT_storeAll (r:=201) rfl Try.sizeOf99 rfl rfl rfl rfl ((nsC_length _).trans (digL_length _)) (nsC_one _) ?_)))))
    refine (N9 (X9 ?_))
    refine Q9 (R9 (L9 rfl (Px9 (r:=104) rfl Try.isAgg104 Try.sizeOf104 rfl rfl (keyC_length hn) (load_all (keyC_length hn))) (L9 rfl (Pu_makeFunc rfl rfl) (Lc9 rfl rfl (by decide) (Oc9 300 [0,101,103,105] [102,104,201] rfl Try.call62 rfl rfl rfl (by decide) (by decide) (kends_spec nm hn q 63 [.pointer (some ⟨g102,0,none⟩),.pointer (some ⟨g104,0,none⟩),.pointer (some ⟨g201,0,none⟩)] Try.call63 (bckY nm q ((sig.drop 4).take 32) msg sig) (fun i hi=>bckY_length (by omega)) sv sig _ _ _ (fun G hG i hi=>kback1_spec nm hn q ((sig.drop 4).take 32) msg sig hlen sv _ _ _ i hi G hG) _ (rs9 0 rfl hsg)) (fun v54 Ps54 hR54=>?_))))))
    obtain ⟨rfl,rfl⟩:=hR54
    refine (Lc09 rfl rfl (OpT_storeAll (r:=103) rfl Try.sizeOf29 rfl rfl rfl rfl ((bs_length _).trans (endsC_length _ _ _)) (bs_one _) ?_))
    refine (G9 rfl rfl (N9 (X9 ?_)))
    refine W_ret ?_
    exact Xq9 [] (Ps:=[]) (resC2 (r:=103) Try.results41 rfl rfl Try.isAgg29 Try.sizeOf29 rfl ((bs_length _).trans (endsC_length _ _ _))) rfl (by decide) ⟨by unfold bckR bckE; rw [hyes]; rfl,rfl⟩
   exact An9
open Go.RowKit
theorem pair_fill {zs a b:List Value} {sz:Nat} (hz:zs.length=2 * sz) (ha:a.length=sz) (hb:b.length=sz) :
    Instr.fill (fun i=>some (i * sz,sz)) zs.toArray [(0,.agg a.toArray),(1,.agg b.toArray)]=some (a++b).toArray:=by
  rw [fill_cons (off:=0 * sz) (sz:=sz) rfl (by simpa [Value.cells] using ha) (by simp [hz]; omega)]
  simp only [Value.cells]
  have h1:=zipIdx_fold a 0 (0 * sz) zs.toArray (by simp [hz,ha]; omega)
  rw [Nat.add_zero] at h1
  rw [← Array.foldl_toList,Array.toList_zipIdx,List.toList_toArray,h1,List.toList_toArray]
  have e1:over zs (0 * sz) a=a++zs.drop sz:=by
    unfold over
    rw [Nat.zero_mul,List.take_zero,List.nil_append,Nat.zero_add,ha]
  rw [e1,fill_cons (off:=1 * sz) (sz:=sz) rfl (by simpa [Value.cells] using hb) (by simp [hz,ha]; omega)]
  simp only [Value.cells]
  have h2:=zipIdx_fold b 0 (1 * sz) (a++zs.drop sz).toArray (by simp [hz,ha,hb]; omega)
  rw [Nat.add_zero] at h2
  rw [← Array.foldl_toList,Array.toList_zipIdx,List.toList_toArray,h2,List.toList_toArray]
  have e2:over (a++zs.drop sz) (1 * sz) b=a++b:=by
    unfold over
    rw [Nat.one_mul,List.take_left' ha,List.drop_of_length_le (by simp [hz,ha,hb]; omega),List.append_nil]
  rw [e2]
  rfl
section
variable {P:Program} {E:Env} {n:Nat} {K:Slots} {L:Res} {o:Oper} {C:Value→Res→Prop}
theorem Pu_pair {t e sz m:Nat} {x y:Operand} {zs a b:List Value} {ie:TypeInfo} (ho:o.op = .build t #[(0,x),(1,y)]) (ht:P.underlying t=some (.array m e)) (hz:(P.info? t).bind (·.zero)=some (.agg zs.toArray)) (hi:P.info? e=some ie) (hs:ie.size=sz) (hzl:zs.length=2 * sz) (ha:a.length=sz) (hb:b.length=sz)
    (hx:evK K x=some (.agg a.toArray)) (hy:evK K y=some (.agg b.toArray)):Pure P E n o K L (.agg (a++b).toArray):=fun ac w hA hS=>by
  subst hs
  have hbt:P.built t [(0,.agg a.toArray),(1,.agg b.toArray)]=some (a++b).toArray:=by
    unfold Program.built
    cases hi2:P.info? t with
    | none=>simp [hi2] at hz
    | some it =>
      simp only [hi2,Option.bind_some] at hz
      simp only [ht,hz,hi,Value.cells]
      exact pair_fill hzl ha hb
  have hm:(#[(0,x),(1,y)].map fun (i,x)=>(i,ac.eval x)) = #[(0,.agg a.toArray),(1,.agg b.toArray)]:=by simp [hA.eval hx,hA.eval hy]
  simp only [execOp,ho,hm,Sem.run_bind,run_build w t _ _ hbt,Result.andThen_ok,Sem.run_pure]
end
theorem nm_copy {b:List UInt8} (hb:16≤b.length):over (bs (List.replicate 16 0)) 0 ((bs b).take (min b.length 16))=bs (b.take 16):=by
  rw [Nat.min_eq_right hb,← bs_take]
  exact over_bs _ _ _ 0 (by
    have h1:(b.take 16).length=16:=by simp; omega
    rw [h1,List.take_zero,List.nil_append,List.drop_of_length_le (by simp),List.append_nil])
theorem take_flat (l:List (List UInt8)) {k:Nat} (h:k < l.length):(l.take (k + 1)).flatten=(l.take k).flatten++l.getD k []:=by
  rw [List.take_add_one,List.flatten_append]
  congr 1
  simp [List.getElem?_eq_getElem h]
theorem take_flat_len {l:List (List UInt8)} (hl:Ids l) (k:Nat):(l.take k).flatten.length≤32 * l.length:=by
  have h:=flat_ids (l:=l.take k) (fun y hy=>hl y (List.mem_of_mem_take hy))
  rw [h,List.length_take]
  have:=Nat.min_le_right k l.length
  omega
theorem ids_one {a:List UInt8} (ha:a.length=32):Ids [a]:=by
  intro y hy
  simp at hy
  rw [hy,ha]
theorem ids_two {a b:List UInt8} (ha:a.length=32) (hb:b.length=32):Ids [a,b]:=by
  intro y hy
  simp at hy
  rcases hy with rfl | rfl
  · exact ha
  · exact hb
theorem idsC_two (a b:List UInt8):idsC [a,b]=bs a++bs b:=by simp [idsC]
theorem flat_one (a:List UInt8):[a].flatten=a:=by simp
theorem flat_two (a b:List UInt8):[a,b].flatten=a++b:=by simp
end Go.Proofs.Ytinamipkpdlphaa
