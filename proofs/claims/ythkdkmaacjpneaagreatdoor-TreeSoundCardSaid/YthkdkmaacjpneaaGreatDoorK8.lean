/- Texts of this proof, one behind the other: TreeAC, TreeBH, TreeSl, Open, Open2, Open3, Open4, OpenF, OpenY, TreeSn, LaidN. -/
import Derived.Test.YthkdkmaacjpneaaGreatDoorK7
import Derived.Test.YthkdkmaacjpneaaGreatDoorK5
import Derived.Test.YthkdkmaacjpneaaGreatDoorK2
import Derived.Test.YthkdkmaacjpneaaGreatDoorK1
import Derived.ProofKit
import Derived.Deep.Slices
import Derived.Deep.Fields
import Derived.ChangeOld
import Derived.OpenShut
import Derived.SizedLaws
import Derived.ChangeMaps5
import Derived.Test.YthkdkmaacjpneaaGreatDoorRows
import Derived.Test.YthkdkmaacjpneaaGreatDoorK3
import Derived.Lib.LaidU8
import Derived.Shelf.Vars
import Derived.MakeChecks
set_option linter.unusedVariables false
set_option linter.unusedSimpArgs false
set_option linter.unusedSectionVars false
namespace Go.Proofs.YthkdkmaacjpneaaGreatDoor
open Go.RowKit
set_option maxRecDepth 8000
theorem row_its {e:TypeId} {v:Value} {n:Nat} {ys:List Value} {xs zs:List F3} {h:Hlt} (hp:rowP e 2 v n (ys ++ recC itC zs) h) (hn:n = xs.length + zs.length) (hy:ys = recC itC xs):rowR itC 2 e v (xs ++ zs) h:=by
  subst hn; subst hy
  unfold rowR
  rw [List.length_append,recC_append]
  exact hp
theorem it_get {xs:List F3} {k:Nat} (hk:k < xs.length):xs.getD k it0 ∈ xs:=getD_mem' hk
theorem its_ones {xs:List F3} (h:∀ x ∈ xs,x.2.1.oneCell' = true):∀ u ∈ recC itC xs,u.oneCell' = true:=by
  intro u hu
  unfold recC at hu
  obtain ⟨l,hl,hu⟩:=List.mem_flatten.1 hu
  obtain ⟨x,hx,rfl⟩:=List.mem_map.1 hl
  exact itC_one (h x hx) u hu
theorem itP_rd {v:Value} {xs:List F3} {h:Hlt} (hp:itemsP v xs h):rdIt v xs h:=starL_le hp (φ:=rdIt v xs) 0 rfl fun h' h1 h2=>rdP_le h2 (rowR_rd _ h1)
theorem itP_dat {v:Value} {xs:List F3} {h:Hlt} (hp:itemsP v xs h):datI xs h:=fun q hq=>starL_le hp (φ:=rdB q.2.1 q.2.2) 1 rfl fun h' h1 h2=>rdP_le h2 (h1 q hq)
theorem datFV_star {Js:List HP} {P:HP} {fs:List FV} (k:Nat) (hk:Js[k]? = some P) (hp:∀ h,P h→datFV fs h):∀ h,starL Js h→datFV fs h:=fun h hs f hf=>rs9 k hk (fun h' hh=>hp h' hh f hf) h hs
theorem dat_sub {xs ys:List F3} {h:Hlt} (hp:datI xs h) (hs:∀ q ∈ ys,q ∈ xs):datI ys h:=fun q hq=>hp q (hs q hq)
theorem short_big {xs:List F3} (h:Short3 xs):∀ x ∈ xs,x.1.length≤900000∧x.2.2.length≤100000000000:=fun x hx=>⟨by have:=(h x hx).1; omega,by have:=(h x hx).2.1; omega⟩
theorem good_next {ins xs:List F3} {i:Nat} (hi:i < ins.length) (hx:xs.length < 20) (hm:∀ q ∈ xs,q ∈ ins) (hs:Short3 ins) (v:Value) (F:HP) (hF:∀ h,F h→rdIt v (xs ++ [ins.getD i it0]) h) (hD:∀ h,F h→datI ins h):CallsS Tryz.prog 21 #[v] F [] (fun r Ps=>∃ (v':Value) (id:List UInt8) (met:Bool) (l:List TB),r = .tuple #[.agg (refC v' id met).toArray,.int .i64 (buildE (xs ++ [ins.getD i it0]):Int)]∧Ps = [treeP v' l]∧id.length = 32∧v'.oneCell' = true∧(buildE (xs ++ [ins.getD i it0]) = 0→(l,met) = putsT ([],false) (dirI 5 (partsN (xs ++ [ins.getD i it0]))).2∧id = (dirI 5 (partsN (xs ++ [ins.getD i it0]))).1)∧(buildE (xs ++ [ins.getD i it0])≠0→l = []∧met = false)) :=
  refBuild_spec v (xs ++ [ins.getD i it0]) (by rw [List.length_append,List.length_singleton]; omega) (short_big (fun q hq=>(List.mem_append.1 hq).elim (fun h=>hs q (hm q h)) (fun h=>by rw [List.mem_singleton.1 h]; exact hs _ (it_get hi)))) F hF
    (fun h hp=>dat_sub (hD h hp) (fun q hq=>(List.mem_append.1 hq).elim (hm q) (fun h2=>by rw [List.mem_singleton.1 h2]; exact it_get hi)))
def unT (t:T2):F3:=(t.1,.slice none 0 0,t.2)
def buildC (l:List T2):Nat:=buildE (l.map unT)
theorem buildE_tag (xs:List F3):buildE xs = buildC (xs.map tagF):=by
  have e:(xs.map tagF).map unT = xs.map (fun x=>unT (tagF x)):=List.map_map
  have h1:firstW (xs.map (fun x=>unT (tagF x))) = firstW xs:=by
    induction xs with
    | nil=>rfl
    | cons x r ih=>rw [List.map_cons,firstW,firstW,ih List.map_map]; rfl
  have h2:(xs.map (fun x=>unT (tagF x))).map pathOf = xs.map pathOf:=by rw [List.map_map]; rfl
  unfold buildC buildE
  rw [e,h1,h2,List.length_map]
def goodC (l:List T2):Nat→List T2
  | 0=>[]
  | i + 1=>if (goodC l i).length < 20∧buildC (goodC l i ++ [l.getD i ([],[])]) = 0 then goodC l i ++ [l.getD i ([],[])] else goodC l i
theorem goodC_stay (l:List T2) {i:Nat} (h:20≤(goodC l i).length):∀ k,goodC l (i + k) = goodC l i
  | 0=>rfl
  | k + 1=>by
    have ih:=goodC_stay l h k
    rw [← Nat.add_assoc,goodC,ih,if_neg (by omega)]
def goodF (fs:List FV):List T2:=goodC (itemsC fs (min fs.length 22)) (itemsC fs (min fs.length 22)).length
theorem tag_getD {xs:List F3} {i:Nat} (h:i < xs.length):(xs.map tagF).getD i ([],[]) = tagF (xs.getD i it0):=by
  rw [List.getD_eq_getElem?_getD,List.getElem?_map,List.getD_eq_getElem?_getD,List.getElem?_eq_getElem h]
  rfl
theorem good_in {xs:List F3} {l:List T2} {x:F3} {i:Nat} (hx:xs.map tagF = goodC l i) (hl:xs.length < 20) (hi:l.getD i ([],[]) = tagF x):(buildE (xs ++ [x]) = 0→(xs ++ [x]).map tagF = goodC l (i + 1))∧(¬ buildE (xs ++ [x]) = 0→xs.map tagF = goodC l (i + 1)):=by
  have h1:(goodC l i).length < 20:=by rw [← hx,List.length_map]; exact hl
  have h2:buildC (goodC l i ++ [l.getD i ([],[])]) = buildE (xs ++ [x]):=by rw [buildE_tag,List.map_append,← hx,hi]; rfl
  refine ⟨fun h=>?_,fun h=>?_⟩
  · rw [goodC,if_pos ⟨h1,by rw [h2]; exact h⟩,List.map_append,hx,hi]; rfl
  · rw [goodC,if_neg (fun hc=>h (by rw [← h2]; exact hc.2)),hx]
theorem good_end {fs:List FV} {ins xs:List F3} {i:Nat} (hi:ins.map tagF = itemsC fs (min fs.length 22)) (hx:xs.map tagF = goodC (ins.map tagF) i) (hl:i≤ins.length) (h:¬ i < ins.length∨¬ xs.length < 20):xs.map tagF = goodF fs:=by
  have hn:(itemsC fs (min fs.length 22)).length = ins.length:=by rw [← hi,List.length_map]
  unfold goodF
  rw [← hi,List.length_map]
  rcases h with h | h
  · rw [hx,show i = ins.length by omega]
  · have:=goodC_stay (ins.map tagF) (i:=i) (by rw [← hx,List.length_map]; omega) (ins.length - i)
    rw [show i + (ins.length - i) = ins.length by omega] at this
    rw [this,hx]
set_option maxHeartbeats 4000000 in
theorem good_spec9 (v:Value) (fs:List FV) (F:HP) (hF:∀ h,F h→rdFV v fs h) (hN:∀ h,F h→datFV fs h):CallsS Tryz.prog 14 #[v] F [] (fun r Ps=>∃ xs:List F3,buildE xs = 0∧xs.length≤20∧Short3 xs∧xs.map tagF = goodF fs∧Ps = [itemsP r xs]):=by
 refine callsS_enter Tryz.func14 rfl Tryz.ntmps14 (by simp) (fun E=>?_)
 refine Q9 (R9 (G9 rfl rfl (N9 (X9 (Q9 (R9 (M9 rfl rfl (Lc9 rfl rfl (by decide) (Oc9 200 [0] [] rfl Tryz.call20 rfl rfl rfl (by decide) (by decide) (items_spec9 v fs _ (rs9 0 rfl hF) (datFV_star 0 rfl hN)) (fun v9 Ps9 hR9=>?_))))))))))
 obtain ⟨ins,hil,his,hit9,rfl⟩:=hR9
 skip
 refine (G9 rfl rfl (N9 (X9 ?_)))
 refine Q9 ?_
 refine W_openItems 200 700 rfl ?_
 refine W_ren 700 5 rfl ?_
 refine W_ren 701 6 rfl ?_
 refine W_nilRow 7 38 2 ?_
 refine Wt9 (P':=rowR itC 2 38 (.slice none 0 0) []) 7 rfl (fun h hp=>hp) ?_
 refine W_fact (r:=6) rfl (fun h hp x hx=>rd_one (hp x hx)) (fun (hone:∀ x ∈ ins,x.2.1.oneCell' = true)=>?_)
 refine R9 (G9 rfl rfl (N9 (X9 (Q9 (Q9 (R9 (G9 rfl rfl (N9 (X9 ?_)))))))))
 refine W_block ?_
 refine W_loop (α:=Nat × Value × List F3) (fun x=>[(3,v9),(4,x.2.1),(5,.int .i64 (x.1:Int))]) (fun x=>[(0,F),(5,rowR itC 2 38 v9 ins),(6,datI ins),(7,rowR itC 2 38 x.2.1 x.2.2)]) (fun x=>x.1≤ins.length∧x.2.2.length≤x.1∧x.2.2.length≤20∧(∀ q ∈ x.2.2,q ∈ ins)∧buildE x.2.2 = 0∧x.2.2.map tagF = goodC (ins.map tagF) x.1) (fun x=>ins.length - x.1) ((0,.slice none 0 0,[])) ⟨Nat.zero_le _,Nat.le_refl _,Nat.zero_le _,fun q hq=>absurd hq (by simp),rfl,rfl⟩ (a9 rfl) (a9 rfl) (fun x hx=>?_)
 obtain ⟨hx,hxl,hx20,hxm,hxb,hxt⟩:=hx
 refine Q9 (Q9 (R9 (M9 rfl rfl (M9 rfl rfl (L9 rfl (Pl9 (r:=5) rfl Tryz.runUnderlying24 rfl rfl rowR_rd) (L9 rfl (Pn9 rfl rfl rfl (run_lss _ _ _ _ _ _)) (M9 rfl rfl (Lg9 rfl rfl rfl rfl (by decide) (fun hb=>(Pm9 rfl rfl)) (Lg9 rfl rfl rfl rfl (by decide) (fun hb=>(Pl9 (r:=7) rfl Tryz.runUnderlying24 (ev_gv rfl hb) rfl rowR_rd)) (Lg9 rfl rfl rfl rfl (by decide) (fun hb=>(Pn9 rfl (ev_gv rfl hb) rfl (run_lss _ _ _ _ _ _))) (L9 rfl (Pu_and rfl rfl rfl) (N9 (X9 ?_)))))))))))))
 refine C9 rfl (fun hc18=>?_) (fun hc18=>?_)
 ·
  have hlt:x.1 < ins.length∧x.2.2.length < 20:=by simp only [Bool.and_eq_true,decide_eq_true_eq] at hc18; omega
  have hq1:=hone _ (it_get hlt.1)
  have hones:=its_ones (fun q hq=>hone q (hxm q hq))
  refine K9 (X9 ?_)
  refine Q9 ?_
  refine W_block ?_
  refine W_cut (α:=Unit) (fun _z=>[(3,v9),(4,x.2.1),(5,.int .i64 (x.1:Int)),(7,.int .i64 ((buildE (x.2.2 ++ [(ins.getD x.1 it0)]):Nat):Int))]) (fun _z=>[(0,F),(5,rowR itC 2 38 v9 ins),(6,datI ins),(7,rowR itC 2 38 x.2.1 x.2.2)]) (fun _z=>True) ?_ (fun z hz=>?_)
  ·
   refine W_draw (N:=16) (by kernel_rfl) rfl [(0,_),(5,_)] ⟨rfl,rfl,trivial⟩ ?_
   refine (T9 1 rfl rfl (Pm9 rfl rfl) (T9 3 rfl rfl (Pm9 rfl rfl) (T9 4 rfl rfl (Pm9 rfl rfl) (T9 5 rfl rfl (Pi9 (r:=5) rfl Tryz.runUnderlying24 Tryz.sizeOf38 rfl rfl rfl rowR_rd (by omega)) (T9 6 rfl rfl (Pz9 (r:=5) rfl Tryz.isAgg38 Tryz.sizeOf38 rfl rfl rowR_rd rfl (by decide) (its_all hlt.1)) (Y9 [0,7,13] ?_))))))
   refine Z9 rfl rfl (OpT_buildRows (r:=151) [] rfl rfl Tryz.runUnderlying24 Tryz.sizeOf38 Tryz.zeroValue38 rfl (by decide) rfl (by decide) (by intro r hr; simp at hr) rfl (fun v22=>⟨⟨rfl,rfl,trivial⟩,?_⟩)) ?_
   ·
    refine AH_turn (P':=rowR itC 2 38 v22 []) 151 rfl (fun h hp=>hp) ?_
    refine (Y9 [2,7,13] ?_)
    refine Z9 rfl rfl (Oa9 (r:=151) (r2:=7) rfl Tryz.underlying24 TI.hi38 TI.hz38 TI.hs38 TI.hby38 TI.hzs38 (by decide) rfl rfl rfl rfl rowR_rd hones (by unfold maxLen; rw [List.length_nil]; omega) (by rw [List.length_nil]; omega) (fun v24=>?_)) ?_
    ·
     refine ⟨⟨rfl,rfl,trivial⟩,?_⟩
     refine AH_turn (P':=rowR itC 2 38 v24 ([] ++ x.2.2)) 151 rfl (fun h hp=>row_its hp (by rw [List.length_nil]) rfl) ?_
     refine (Y9 [7,13] ?_)
     refine Z9 rfl rfl (OpT_buildRows (r:=152) [itC (ins.getD x.1 it0)] rfl rfl Tryz.runUnderlying24 Tryz.sizeOf38 Tryz.zeroValue38 rfl (by decide) rfl (by decide) (by intro r hr; simp at hr; rw [hr]; rfl) rfl (fun v29=>⟨⟨rfl,rfl,trivial⟩,?_⟩)) ?_
     ·
      refine (Y9 [8,13] ?_)
      refine Z9 rfl rfl (Oa9 (r:=151) (r2:=152) rfl Tryz.underlying24 TI.hi38 TI.hz38 TI.hs38 TI.hby38 TI.hzs38 (by decide) rfl rfl rfl rfl (fun _ h=>rp9 h) (by rw [List.flatten_cons,List.flatten_nil,List.append_nil]; exact itC_one hq1) (by unfold maxLen; rw [List.nil_append]; omega) (by rw [List.nil_append]; omega) (fun v30=>?_)) ?_
      ·
       refine ⟨⟨rfl,rfl,trivial⟩,?_⟩
       refine AH_turn (P':=rowR itC 2 38 v30 (x.2.2 ++ [(ins.getD x.1 it0)])) 151 rfl (fun h hp=>row_it hp) ?_
       refine (Y9 [9,13] ?_)
       refine Z9 rfl rfl (Oc9 200 [0,5,6,7,151,152] [] rfl Tryz.call21 rfl rfl rfl (by decide) (by decide) (good_next hlt.1 hlt.2 hxm his v30 _ (rs9 4 rfl rowR_rd) (datI_star 2 rfl (fun _ h=>h))) (fun v31 Ps31 hR31=>?_)) ?_
       ·
        obtain ⟨vt,idt,mt,lt,rfl,rfl,hit,hvt,_,_⟩:=hR31
        refine ⟨⟨rfl,rfl,trivial⟩,?_⟩
        refine (T9 10 rfl rfl (Pm9 rfl rfl) (T9 11 rfl rfl (Pe9 rfl rfl rfl) (T9 12 rfl rfl (Pe9 rfl rfl rfl) (Y9 [13] ?_))))
        refine Z9 rfl rfl (OpT_alloc (r:=201) (cs:=(refC (.slice none 0 0) zeroId false)) rfl (zero_run (by kernel_rfl:(Tryz.prog.info? 50).bind (·.zero) = some (.agg (refC (.slice none 0 0) zeroId false).toArray))) rfl (fun g201=>⟨⟨rfl,rfl,trivial⟩,?_⟩)) ?_
        ·
         refine (Y9 [14] ?_)
         refine Ac09 rfl rfl rfl (OpT_storeAll (r:=201) rfl Tryz.sizeOf50 rfl rfl rfl (refC_len zeroId_length) (refC_len hit) (refC_one hvt) ?_) ?_
         ·
          refine ⟨⟨rfl,rfl,trivial⟩,?_⟩
          refine (T9 15 rfl rfl (Pg9 rfl rfl) (Ad9 (by kernel_rfl) ?_))
          exact X_cut () trivial (a9 rfl) (a9 rfl)
         exact An9
        exact An9
       refine Z9 rfl rfl (OpT_alloc (r:=153) (cs:=(refC (.slice none 0 0) zeroId false)) rfl (zero_run (by kernel_rfl:(Tryz.prog.info? 50).bind (·.zero) = some (.agg (refC (.slice none 0 0) zeroId false).toArray))) rfl (fun g153=>⟨⟨rfl,rfl,trivial⟩,?_⟩)) ?_
       ·
        refine (Y9 [9] ?_)
        refine Z9 rfl rfl (Oc9 200 [0,5,6,7,151,152,153] [] rfl Tryz.call21 rfl rfl rfl (by decide) (by decide) (good_next hlt.1 hlt.2 hxm his v30 _ (rs9 4 rfl rowR_rd) (datI_star 2 rfl (fun _ h=>h))) (fun v31 Ps31 hR31=>?_)) ?_
        ·
         obtain ⟨vt,idt,mt,lt,rfl,rfl,hit,hvt,_,_⟩:=hR31
         refine ⟨⟨rfl,rfl,trivial⟩,?_⟩
         refine (T9 10 rfl rfl (Pm9 rfl rfl) (T9 11 rfl rfl (Pe9 rfl rfl rfl) (T9 12 rfl rfl (Pe9 rfl rfl rfl) (Y9 [14] ?_))))
         refine Ac09 rfl rfl rfl (OpT_storeAll (r:=153) rfl Tryz.sizeOf50 rfl rfl rfl (refC_len zeroId_length) (refC_len hit) (refC_one hvt) ?_) ?_
         ·
          refine ⟨⟨rfl,rfl,trivial⟩,?_⟩
          refine (T9 15 rfl rfl (Pg9 rfl rfl) (Ad9 (by kernel_rfl) ?_))
          exact X_cut () trivial (a9 rfl) (a9 rfl)
         exact An9
        exact An9
       exact An9
      refine Z9 rfl rfl (OpT_alloc (r:=153) (cs:=(refC (.slice none 0 0) zeroId false)) rfl (zero_run (by kernel_rfl:(Tryz.prog.info? 50).bind (·.zero) = some (.agg (refC (.slice none 0 0) zeroId false).toArray))) rfl (fun g153=>⟨⟨rfl,rfl,trivial⟩,?_⟩)) ?_
      ·
       refine (Y9 [8] ?_)
       refine Z9 rfl rfl (Oa9 (r:=151) (r2:=152) rfl Tryz.underlying24 TI.hi38 TI.hz38 TI.hs38 TI.hby38 TI.hzs38 (by decide) rfl rfl rfl rfl (fun _ h=>rp9 h) (by rw [List.flatten_cons,List.flatten_nil,List.append_nil]; exact itC_one hq1) (by unfold maxLen; rw [List.nil_append]; omega) (by rw [List.nil_append]; omega) (fun v30=>?_)) ?_
       ·
        refine ⟨⟨rfl,rfl,trivial⟩,?_⟩
        refine AH_turn (P':=rowR itC 2 38 v30 (x.2.2 ++ [(ins.getD x.1 it0)])) 151 rfl (fun h hp=>row_it hp) ?_
        refine (Y9 [9] ?_)
        refine Z9 rfl rfl (Oc9 200 [0,5,6,7,151,152,153] [] rfl Tryz.call21 rfl rfl rfl (by decide) (by decide) (good_next hlt.1 hlt.2 hxm his v30 _ (rs9 4 rfl rowR_rd) (datI_star 2 rfl (fun _ h=>h))) (fun v31 Ps31 hR31=>?_)) ?_
        ·
         obtain ⟨vt,idt,mt,lt,rfl,rfl,hit,hvt,_,_⟩:=hR31
         refine ⟨⟨rfl,rfl,trivial⟩,?_⟩
         refine (T9 10 rfl rfl (Pm9 rfl rfl) (T9 11 rfl rfl (Pe9 rfl rfl rfl) (T9 12 rfl rfl (Pe9 rfl rfl rfl) (Y9 [14] ?_))))
         refine Ac09 rfl rfl rfl (OpT_storeAll (r:=153) rfl Tryz.sizeOf50 rfl rfl rfl (refC_len zeroId_length) (refC_len hit) (refC_one hvt) ?_) ?_
         ·
          refine ⟨⟨rfl,rfl,trivial⟩,?_⟩
          refine (T9 15 rfl rfl (Pg9 rfl rfl) (Ad9 (by kernel_rfl) ?_))
          exact X_cut () trivial (a9 rfl) (a9 rfl)
         exact An9
        exact An9
       exact An9
      exact An9
     refine Z9 rfl rfl (OpT_alloc (r:=152) (cs:=(refC (.slice none 0 0) zeroId false)) rfl (zero_run (by kernel_rfl:(Tryz.prog.info? 50).bind (·.zero) = some (.agg (refC (.slice none 0 0) zeroId false).toArray))) rfl (fun g152=>⟨⟨rfl,rfl,trivial⟩,?_⟩)) ?_
     ·
      refine (Y9 [7] ?_)
      refine Z9 rfl rfl (OpT_buildRows (r:=153) [itC (ins.getD x.1 it0)] rfl rfl Tryz.runUnderlying24 Tryz.sizeOf38 Tryz.zeroValue38 rfl (by decide) rfl (by decide) (by intro r hr; simp at hr; rw [hr]; rfl) rfl (fun v29=>⟨⟨rfl,rfl,trivial⟩,?_⟩)) ?_
      ·
       refine (Y9 [8] ?_)
       refine Z9 rfl rfl (Oa9 (r:=151) (r2:=153) rfl Tryz.underlying24 TI.hi38 TI.hz38 TI.hs38 TI.hby38 TI.hzs38 (by decide) rfl rfl rfl rfl (fun _ h=>rp9 h) (by rw [List.flatten_cons,List.flatten_nil,List.append_nil]; exact itC_one hq1) (by unfold maxLen; rw [List.nil_append]; omega) (by rw [List.nil_append]; omega) (fun v30=>?_)) ?_
       ·
        refine ⟨⟨rfl,rfl,trivial⟩,?_⟩
        refine AH_turn (P':=rowR itC 2 38 v30 (x.2.2 ++ [(ins.getD x.1 it0)])) 151 rfl (fun h hp=>row_it hp) ?_
        refine (Y9 [9] ?_)
        refine Z9 rfl rfl (Oc9 200 [0,5,6,7,151,152,153] [] rfl Tryz.call21 rfl rfl rfl (by decide) (by decide) (good_next hlt.1 hlt.2 hxm his v30 _ (rs9 4 rfl rowR_rd) (datI_star 2 rfl (fun _ h=>h))) (fun v31 Ps31 hR31=>?_)) ?_
        ·
         obtain ⟨vt,idt,mt,lt,rfl,rfl,hit,hvt,_,_⟩:=hR31
         refine ⟨⟨rfl,rfl,trivial⟩,?_⟩
         refine (T9 10 rfl rfl (Pm9 rfl rfl) (T9 11 rfl rfl (Pe9 rfl rfl rfl) (T9 12 rfl rfl (Pe9 rfl rfl rfl) (Y9 [14] ?_))))
         refine Ac09 rfl rfl rfl (OpT_storeAll (r:=152) rfl Tryz.sizeOf50 rfl rfl rfl (refC_len zeroId_length) (refC_len hit) (refC_one hvt) ?_) ?_
         ·
          refine ⟨⟨rfl,rfl,trivial⟩,?_⟩
          refine (T9 15 rfl rfl (Pg9 rfl rfl) (Ad9 (by kernel_rfl) ?_))
          exact X_cut () trivial (a9 rfl) (a9 rfl)
         exact An9
        exact An9
       exact An9
      exact An9
     exact An9
    refine Z9 rfl rfl (OpT_buildRows (r:=152) [itC (ins.getD x.1 it0)] rfl rfl Tryz.runUnderlying24 Tryz.sizeOf38 Tryz.zeroValue38 rfl (by decide) rfl (by decide) (by intro r hr; simp at hr; rw [hr]; rfl) rfl (fun v29=>⟨⟨rfl,rfl,trivial⟩,?_⟩)) ?_
    ·
     refine (Y9 [2,13] ?_)
     refine Z9 rfl rfl (Oa9 (r:=151) (r2:=7) rfl Tryz.underlying24 TI.hi38 TI.hz38 TI.hs38 TI.hby38 TI.hzs38 (by decide) rfl rfl rfl rfl rowR_rd hones (by unfold maxLen; rw [List.length_nil]; omega) (by rw [List.length_nil]; omega) (fun v24=>?_)) ?_
     ·
      refine ⟨⟨rfl,rfl,trivial⟩,?_⟩
      refine AH_turn (P':=rowR itC 2 38 v24 ([] ++ x.2.2)) 151 rfl (fun h hp=>row_its hp (by rw [List.length_nil]) rfl) ?_
      refine (Y9 [8,13] ?_)
      refine Z9 rfl rfl (Oa9 (r:=151) (r2:=152) rfl Tryz.underlying24 TI.hi38 TI.hz38 TI.hs38 TI.hby38 TI.hzs38 (by decide) rfl rfl rfl rfl (fun _ h=>rp9 h) (by rw [List.flatten_cons,List.flatten_nil,List.append_nil]; exact itC_one hq1) (by unfold maxLen; rw [List.nil_append]; omega) (by rw [List.nil_append]; omega) (fun v30=>?_)) ?_
      ·
       refine ⟨⟨rfl,rfl,trivial⟩,?_⟩
       refine AH_turn (P':=rowR itC 2 38 v30 (x.2.2 ++ [(ins.getD x.1 it0)])) 151 rfl (fun h hp=>row_it hp) ?_
       refine (Y9 [9,13] ?_)
       refine Z9 rfl rfl (Oc9 200 [0,5,6,7,151,152] [] rfl Tryz.call21 rfl rfl rfl (by decide) (by decide) (good_next hlt.1 hlt.2 hxm his v30 _ (rs9 4 rfl rowR_rd) (datI_star 2 rfl (fun _ h=>h))) (fun v31 Ps31 hR31=>?_)) ?_
       ·
        obtain ⟨vt,idt,mt,lt,rfl,rfl,hit,hvt,_,_⟩:=hR31
        refine ⟨⟨rfl,rfl,trivial⟩,?_⟩
        refine (T9 10 rfl rfl (Pm9 rfl rfl) (T9 11 rfl rfl (Pe9 rfl rfl rfl) (T9 12 rfl rfl (Pe9 rfl rfl rfl) (Y9 [13] ?_))))
        refine Z9 rfl rfl (OpT_alloc (r:=201) (cs:=(refC (.slice none 0 0) zeroId false)) rfl (zero_run (by kernel_rfl:(Tryz.prog.info? 50).bind (·.zero) = some (.agg (refC (.slice none 0 0) zeroId false).toArray))) rfl (fun g201=>⟨⟨rfl,rfl,trivial⟩,?_⟩)) ?_
        ·
         refine (Y9 [14] ?_)
         refine Ac09 rfl rfl rfl (OpT_storeAll (r:=201) rfl Tryz.sizeOf50 rfl rfl rfl (refC_len zeroId_length) (refC_len hit) (refC_one hvt) ?_) ?_
         ·
          refine ⟨⟨rfl,rfl,trivial⟩,?_⟩
          refine (T9 15 rfl rfl (Pg9 rfl rfl) (Ad9 (by kernel_rfl) ?_))
          exact X_cut () trivial (a9 rfl) (a9 rfl)
         exact An9
        exact An9
       refine Z9 rfl rfl (OpT_alloc (r:=153) (cs:=(refC (.slice none 0 0) zeroId false)) rfl (zero_run (by kernel_rfl:(Tryz.prog.info? 50).bind (·.zero) = some (.agg (refC (.slice none 0 0) zeroId false).toArray))) rfl (fun g153=>⟨⟨rfl,rfl,trivial⟩,?_⟩)) ?_
       ·
        refine (Y9 [9] ?_)
        refine Z9 rfl rfl (Oc9 200 [0,5,6,7,151,152,153] [] rfl Tryz.call21 rfl rfl rfl (by decide) (by decide) (good_next hlt.1 hlt.2 hxm his v30 _ (rs9 4 rfl rowR_rd) (datI_star 2 rfl (fun _ h=>h))) (fun v31 Ps31 hR31=>?_)) ?_
        ·
         obtain ⟨vt,idt,mt,lt,rfl,rfl,hit,hvt,_,_⟩:=hR31
         refine ⟨⟨rfl,rfl,trivial⟩,?_⟩
         refine (T9 10 rfl rfl (Pm9 rfl rfl) (T9 11 rfl rfl (Pe9 rfl rfl rfl) (T9 12 rfl rfl (Pe9 rfl rfl rfl) (Y9 [14] ?_))))
         refine Ac09 rfl rfl rfl (OpT_storeAll (r:=153) rfl Tryz.sizeOf50 rfl rfl rfl (refC_len zeroId_length) (refC_len hit) (refC_one hvt) ?_) ?_
         ·
          refine ⟨⟨rfl,rfl,trivial⟩,?_⟩
          refine (T9 15 rfl rfl (Pg9 rfl rfl) (Ad9 (by kernel_rfl) ?_))
          exact X_cut () trivial (a9 rfl) (a9 rfl)
         exact An9
        exact An9
       exact An9
      refine Z9 rfl rfl (OpT_alloc (r:=153) (cs:=(refC (.slice none 0 0) zeroId false)) rfl (zero_run (by kernel_rfl:(Tryz.prog.info? 50).bind (·.zero) = some (.agg (refC (.slice none 0 0) zeroId false).toArray))) rfl (fun g153=>⟨⟨rfl,rfl,trivial⟩,?_⟩)) ?_
      ·
       refine (Y9 [8] ?_)
       refine Z9 rfl rfl (Oa9 (r:=151) (r2:=152) rfl Tryz.underlying24 TI.hi38 TI.hz38 TI.hs38 TI.hby38 TI.hzs38 (by decide) rfl rfl rfl rfl (fun _ h=>rp9 h) (by rw [List.flatten_cons,List.flatten_nil,List.append_nil]; exact itC_one hq1) (by unfold maxLen; rw [List.nil_append]; omega) (by rw [List.nil_append]; omega) (fun v30=>?_)) ?_
       ·
        refine ⟨⟨rfl,rfl,trivial⟩,?_⟩
        refine AH_turn (P':=rowR itC 2 38 v30 (x.2.2 ++ [(ins.getD x.1 it0)])) 151 rfl (fun h hp=>row_it hp) ?_
        refine (Y9 [9] ?_)
        refine Z9 rfl rfl (Oc9 200 [0,5,6,7,151,152,153] [] rfl Tryz.call21 rfl rfl rfl (by decide) (by decide) (good_next hlt.1 hlt.2 hxm his v30 _ (rs9 4 rfl rowR_rd) (datI_star 2 rfl (fun _ h=>h))) (fun v31 Ps31 hR31=>?_)) ?_
        ·
         obtain ⟨vt,idt,mt,lt,rfl,rfl,hit,hvt,_,_⟩:=hR31
         refine ⟨⟨rfl,rfl,trivial⟩,?_⟩
         refine (T9 10 rfl rfl (Pm9 rfl rfl) (T9 11 rfl rfl (Pe9 rfl rfl rfl) (T9 12 rfl rfl (Pe9 rfl rfl rfl) (Y9 [14] ?_))))
         refine Ac09 rfl rfl rfl (OpT_storeAll (r:=153) rfl Tryz.sizeOf50 rfl rfl rfl (refC_len zeroId_length) (refC_len hit) (refC_one hvt) ?_) ?_
         ·
          refine ⟨⟨rfl,rfl,trivial⟩,?_⟩
          refine (T9 15 rfl rfl (Pg9 rfl rfl) (Ad9 (by kernel_rfl) ?_))
          exact X_cut () trivial (a9 rfl) (a9 rfl)
         exact An9
        exact An9
       exact An9
      exact An9
     refine Z9 rfl rfl (OpT_alloc (r:=153) (cs:=(refC (.slice none 0 0) zeroId false)) rfl (zero_run (by kernel_rfl:(Tryz.prog.info? 50).bind (·.zero) = some (.agg (refC (.slice none 0 0) zeroId false).toArray))) rfl (fun g153=>⟨⟨rfl,rfl,trivial⟩,?_⟩)) ?_
     ·
      refine (Y9 [2] ?_)
      refine Z9 rfl rfl (Oa9 (r:=151) (r2:=7) rfl Tryz.underlying24 TI.hi38 TI.hz38 TI.hs38 TI.hby38 TI.hzs38 (by decide) rfl rfl rfl rfl rowR_rd hones (by unfold maxLen; rw [List.length_nil]; omega) (by rw [List.length_nil]; omega) (fun v24=>?_)) ?_
      ·
       refine ⟨⟨rfl,rfl,trivial⟩,?_⟩
       refine AH_turn (P':=rowR itC 2 38 v24 ([] ++ x.2.2)) 151 rfl (fun h hp=>row_its hp (by rw [List.length_nil]) rfl) ?_
       refine (Y9 [8] ?_)
       refine Z9 rfl rfl (Oa9 (r:=151) (r2:=152) rfl Tryz.underlying24 TI.hi38 TI.hz38 TI.hs38 TI.hby38 TI.hzs38 (by decide) rfl rfl rfl rfl (fun _ h=>rp9 h) (by rw [List.flatten_cons,List.flatten_nil,List.append_nil]; exact itC_one hq1) (by unfold maxLen; rw [List.nil_append]; omega) (by rw [List.nil_append]; omega) (fun v30=>?_)) ?_
       ·
        refine ⟨⟨rfl,rfl,trivial⟩,?_⟩
        refine AH_turn (P':=rowR itC 2 38 v30 (x.2.2 ++ [(ins.getD x.1 it0)])) 151 rfl (fun h hp=>row_it hp) ?_
        refine (Y9 [9] ?_)
        refine Z9 rfl rfl (Oc9 200 [0,5,6,7,151,152,153] [] rfl Tryz.call21 rfl rfl rfl (by decide) (by decide) (good_next hlt.1 hlt.2 hxm his v30 _ (rs9 4 rfl rowR_rd) (datI_star 2 rfl (fun _ h=>h))) (fun v31 Ps31 hR31=>?_)) ?_
        ·
         obtain ⟨vt,idt,mt,lt,rfl,rfl,hit,hvt,_,_⟩:=hR31
         refine ⟨⟨rfl,rfl,trivial⟩,?_⟩
         refine (T9 10 rfl rfl (Pm9 rfl rfl) (T9 11 rfl rfl (Pe9 rfl rfl rfl) (T9 12 rfl rfl (Pe9 rfl rfl rfl) (Y9 [14] ?_))))
         refine Ac09 rfl rfl rfl (OpT_storeAll (r:=153) rfl Tryz.sizeOf50 rfl rfl rfl (refC_len zeroId_length) (refC_len hit) (refC_one hvt) ?_) ?_
         ·
          refine ⟨⟨rfl,rfl,trivial⟩,?_⟩
          refine (T9 15 rfl rfl (Pg9 rfl rfl) (Ad9 (by kernel_rfl) ?_))
          exact X_cut () trivial (a9 rfl) (a9 rfl)
         exact An9
        exact An9
       exact An9
      exact An9
     exact An9
    refine Z9 rfl rfl (OpT_alloc (r:=152) (cs:=(refC (.slice none 0 0) zeroId false)) rfl (zero_run (by kernel_rfl:(Tryz.prog.info? 50).bind (·.zero) = some (.agg (refC (.slice none 0 0) zeroId false).toArray))) rfl (fun g152=>⟨⟨rfl,rfl,trivial⟩,?_⟩)) ?_
    ·
     refine (Y9 [2,7] ?_)
     refine Z9 rfl rfl (Oa9 (r:=151) (r2:=7) rfl Tryz.underlying24 TI.hi38 TI.hz38 TI.hs38 TI.hby38 TI.hzs38 (by decide) rfl rfl rfl rfl rowR_rd hones (by unfold maxLen; rw [List.length_nil]; omega) (by rw [List.length_nil]; omega) (fun v24=>?_)) ?_
     ·
      refine ⟨⟨rfl,rfl,trivial⟩,?_⟩
      refine AH_turn (P':=rowR itC 2 38 v24 ([] ++ x.2.2)) 151 rfl (fun h hp=>row_its hp (by rw [List.length_nil]) rfl) ?_
      refine (Y9 [7] ?_)
      refine Z9 rfl rfl (OpT_buildRows (r:=153) [itC (ins.getD x.1 it0)] rfl rfl Tryz.runUnderlying24 Tryz.sizeOf38 Tryz.zeroValue38 rfl (by decide) rfl (by decide) (by intro r hr; simp at hr; rw [hr]; rfl) rfl (fun v29=>⟨⟨rfl,rfl,trivial⟩,?_⟩)) ?_
      ·
       refine (Y9 [8] ?_)
       refine Z9 rfl rfl (Oa9 (r:=151) (r2:=153) rfl Tryz.underlying24 TI.hi38 TI.hz38 TI.hs38 TI.hby38 TI.hzs38 (by decide) rfl rfl rfl rfl (fun _ h=>rp9 h) (by rw [List.flatten_cons,List.flatten_nil,List.append_nil]; exact itC_one hq1) (by unfold maxLen; rw [List.nil_append]; omega) (by rw [List.nil_append]; omega) (fun v30=>?_)) ?_
       ·
        refine ⟨⟨rfl,rfl,trivial⟩,?_⟩
        refine AH_turn (P':=rowR itC 2 38 v30 (x.2.2 ++ [(ins.getD x.1 it0)])) 151 rfl (fun h hp=>row_it hp) ?_
        refine (Y9 [9] ?_)
        refine Z9 rfl rfl (Oc9 200 [0,5,6,7,151,152,153] [] rfl Tryz.call21 rfl rfl rfl (by decide) (by decide) (good_next hlt.1 hlt.2 hxm his v30 _ (rs9 4 rfl rowR_rd) (datI_star 2 rfl (fun _ h=>h))) (fun v31 Ps31 hR31=>?_)) ?_
        ·
         obtain ⟨vt,idt,mt,lt,rfl,rfl,hit,hvt,_,_⟩:=hR31
         refine ⟨⟨rfl,rfl,trivial⟩,?_⟩
         refine (T9 10 rfl rfl (Pm9 rfl rfl) (T9 11 rfl rfl (Pe9 rfl rfl rfl) (T9 12 rfl rfl (Pe9 rfl rfl rfl) (Y9 [14] ?_))))
         refine Ac09 rfl rfl rfl (OpT_storeAll (r:=152) rfl Tryz.sizeOf50 rfl rfl rfl (refC_len zeroId_length) (refC_len hit) (refC_one hvt) ?_) ?_
         ·
          refine ⟨⟨rfl,rfl,trivial⟩,?_⟩
          refine (T9 15 rfl rfl (Pg9 rfl rfl) (Ad9 (by kernel_rfl) ?_))
          exact X_cut () trivial (a9 rfl) (a9 rfl)
         exact An9
        exact An9
       exact An9
      exact An9
     refine Z9 rfl rfl (OpT_buildRows (r:=153) [itC (ins.getD x.1 it0)] rfl rfl Tryz.runUnderlying24 Tryz.sizeOf38 Tryz.zeroValue38 rfl (by decide) rfl (by decide) (by intro r hr; simp at hr; rw [hr]; rfl) rfl (fun v29=>⟨⟨rfl,rfl,trivial⟩,?_⟩)) ?_
     ·
      refine (Y9 [2] ?_)
      refine Z9 rfl rfl (Oa9 (r:=151) (r2:=7) rfl Tryz.underlying24 TI.hi38 TI.hz38 TI.hs38 TI.hby38 TI.hzs38 (by decide) rfl rfl rfl rfl rowR_rd hones (by unfold maxLen; rw [List.length_nil]; omega) (by rw [List.length_nil]; omega) (fun v24=>?_)) ?_
      ·
       refine ⟨⟨rfl,rfl,trivial⟩,?_⟩
       refine AH_turn (P':=rowR itC 2 38 v24 ([] ++ x.2.2)) 151 rfl (fun h hp=>row_its hp (by rw [List.length_nil]) rfl) ?_
       refine (Y9 [8] ?_)
       refine Z9 rfl rfl (Oa9 (r:=151) (r2:=153) rfl Tryz.underlying24 TI.hi38 TI.hz38 TI.hs38 TI.hby38 TI.hzs38 (by decide) rfl rfl rfl rfl (fun _ h=>rp9 h) (by rw [List.flatten_cons,List.flatten_nil,List.append_nil]; exact itC_one hq1) (by unfold maxLen; rw [List.nil_append]; omega) (by rw [List.nil_append]; omega) (fun v30=>?_)) ?_
       ·
        refine ⟨⟨rfl,rfl,trivial⟩,?_⟩
        refine AH_turn (P':=rowR itC 2 38 v30 (x.2.2 ++ [(ins.getD x.1 it0)])) 151 rfl (fun h hp=>row_it hp) ?_
        refine (Y9 [9] ?_)
        refine Z9 rfl rfl (Oc9 200 [0,5,6,7,151,152,153] [] rfl Tryz.call21 rfl rfl rfl (by decide) (by decide) (good_next hlt.1 hlt.2 hxm his v30 _ (rs9 4 rfl rowR_rd) (datI_star 2 rfl (fun _ h=>h))) (fun v31 Ps31 hR31=>?_)) ?_
        ·
         obtain ⟨vt,idt,mt,lt,rfl,rfl,hit,hvt,_,_⟩:=hR31
         refine ⟨⟨rfl,rfl,trivial⟩,?_⟩
         refine (T9 10 rfl rfl (Pm9 rfl rfl) (T9 11 rfl rfl (Pe9 rfl rfl rfl) (T9 12 rfl rfl (Pe9 rfl rfl rfl) (Y9 [14] ?_))))
         refine Ac09 rfl rfl rfl (OpT_storeAll (r:=152) rfl Tryz.sizeOf50 rfl rfl rfl (refC_len zeroId_length) (refC_len hit) (refC_one hvt) ?_) ?_
         ·
          refine ⟨⟨rfl,rfl,trivial⟩,?_⟩
          refine (T9 15 rfl rfl (Pg9 rfl rfl) (Ad9 (by kernel_rfl) ?_))
          exact X_cut () trivial (a9 rfl) (a9 rfl)
         exact An9
        exact An9
       exact An9
      exact An9
     exact An9
    exact An9
   refine Z9 rfl rfl (OpT_buildRows (r:=151) [itC (ins.getD x.1 it0)] rfl rfl Tryz.runUnderlying24 Tryz.sizeOf38 Tryz.zeroValue38 rfl (by decide) rfl (by decide) (by intro r hr; simp at hr; rw [hr]; rfl) rfl (fun v29=>⟨⟨rfl,rfl,trivial⟩,?_⟩)) ?_
   ·
    refine (Y9 [0,13] ?_)
    refine Z9 rfl rfl (OpT_buildRows (r:=152) [] rfl rfl Tryz.runUnderlying24 Tryz.sizeOf38 Tryz.zeroValue38 rfl (by decide) rfl (by decide) (by intro r hr; simp at hr) rfl (fun v22=>⟨⟨rfl,rfl,trivial⟩,?_⟩)) ?_
    ·
     refine AH_turn (P':=rowR itC 2 38 v22 []) 152 rfl (fun h hp=>hp) ?_
     refine (Y9 [2,13] ?_)
     refine Z9 rfl rfl (Oa9 (r:=152) (r2:=7) rfl Tryz.underlying24 TI.hi38 TI.hz38 TI.hs38 TI.hby38 TI.hzs38 (by decide) rfl rfl rfl rfl rowR_rd hones (by unfold maxLen; rw [List.length_nil]; omega) (by rw [List.length_nil]; omega) (fun v24=>?_)) ?_
     ·
      refine ⟨⟨rfl,rfl,trivial⟩,?_⟩
      refine AH_turn (P':=rowR itC 2 38 v24 ([] ++ x.2.2)) 152 rfl (fun h hp=>row_its hp (by rw [List.length_nil]) rfl) ?_
      refine (Y9 [8,13] ?_)
      refine Z9 rfl rfl (Oa9 (r:=152) (r2:=151) rfl Tryz.underlying24 TI.hi38 TI.hz38 TI.hs38 TI.hby38 TI.hzs38 (by decide) rfl rfl rfl rfl (fun _ h=>rp9 h) (by rw [List.flatten_cons,List.flatten_nil,List.append_nil]; exact itC_one hq1) (by unfold maxLen; rw [List.nil_append]; omega) (by rw [List.nil_append]; omega) (fun v30=>?_)) ?_
      ·
       refine ⟨⟨rfl,rfl,trivial⟩,?_⟩
       refine AH_turn (P':=rowR itC 2 38 v30 (x.2.2 ++ [(ins.getD x.1 it0)])) 152 rfl (fun h hp=>row_it hp) ?_
       refine (Y9 [9,13] ?_)
       refine Z9 rfl rfl (Oc9 200 [0,5,6,7,151,152] [] rfl Tryz.call21 rfl rfl rfl (by decide) (by decide) (good_next hlt.1 hlt.2 hxm his v30 _ (rs9 5 rfl rowR_rd) (datI_star 2 rfl (fun _ h=>h))) (fun v31 Ps31 hR31=>?_)) ?_
       ·
        obtain ⟨vt,idt,mt,lt,rfl,rfl,hit,hvt,_,_⟩:=hR31
        refine ⟨⟨rfl,rfl,trivial⟩,?_⟩
        refine (T9 10 rfl rfl (Pm9 rfl rfl) (T9 11 rfl rfl (Pe9 rfl rfl rfl) (T9 12 rfl rfl (Pe9 rfl rfl rfl) (Y9 [13] ?_))))
        refine Z9 rfl rfl (OpT_alloc (r:=201) (cs:=(refC (.slice none 0 0) zeroId false)) rfl (zero_run (by kernel_rfl:(Tryz.prog.info? 50).bind (·.zero) = some (.agg (refC (.slice none 0 0) zeroId false).toArray))) rfl (fun g201=>⟨⟨rfl,rfl,trivial⟩,?_⟩)) ?_
        ·
         refine (Y9 [14] ?_)
         refine Ac09 rfl rfl rfl (OpT_storeAll (r:=201) rfl Tryz.sizeOf50 rfl rfl rfl (refC_len zeroId_length) (refC_len hit) (refC_one hvt) ?_) ?_
         ·
          refine ⟨⟨rfl,rfl,trivial⟩,?_⟩
          refine (T9 15 rfl rfl (Pg9 rfl rfl) (Ad9 (by kernel_rfl) ?_))
          exact X_cut () trivial (a9 rfl) (a9 rfl)
         exact An9
        exact An9
       refine Z9 rfl rfl (OpT_alloc (r:=153) (cs:=(refC (.slice none 0 0) zeroId false)) rfl (zero_run (by kernel_rfl:(Tryz.prog.info? 50).bind (·.zero) = some (.agg (refC (.slice none 0 0) zeroId false).toArray))) rfl (fun g153=>⟨⟨rfl,rfl,trivial⟩,?_⟩)) ?_
       ·
        refine (Y9 [9] ?_)
        refine Z9 rfl rfl (Oc9 200 [0,5,6,7,151,152,153] [] rfl Tryz.call21 rfl rfl rfl (by decide) (by decide) (good_next hlt.1 hlt.2 hxm his v30 _ (rs9 5 rfl rowR_rd) (datI_star 2 rfl (fun _ h=>h))) (fun v31 Ps31 hR31=>?_)) ?_
        ·
         obtain ⟨vt,idt,mt,lt,rfl,rfl,hit,hvt,_,_⟩:=hR31
         refine ⟨⟨rfl,rfl,trivial⟩,?_⟩
         refine (T9 10 rfl rfl (Pm9 rfl rfl) (T9 11 rfl rfl (Pe9 rfl rfl rfl) (T9 12 rfl rfl (Pe9 rfl rfl rfl) (Y9 [14] ?_))))
         refine Ac09 rfl rfl rfl (OpT_storeAll (r:=153) rfl Tryz.sizeOf50 rfl rfl rfl (refC_len zeroId_length) (refC_len hit) (refC_one hvt) ?_) ?_
         ·
          refine ⟨⟨rfl,rfl,trivial⟩,?_⟩
          refine (T9 15 rfl rfl (Pg9 rfl rfl) (Ad9 (by kernel_rfl) ?_))
          exact X_cut () trivial (a9 rfl) (a9 rfl)
         exact An9
        exact An9
       exact An9
      refine Z9 rfl rfl (OpT_alloc (r:=153) (cs:=(refC (.slice none 0 0) zeroId false)) rfl (zero_run (by kernel_rfl:(Tryz.prog.info? 50).bind (·.zero) = some (.agg (refC (.slice none 0 0) zeroId false).toArray))) rfl (fun g153=>⟨⟨rfl,rfl,trivial⟩,?_⟩)) ?_
      ·
       refine (Y9 [8] ?_)
       refine Z9 rfl rfl (Oa9 (r:=152) (r2:=151) rfl Tryz.underlying24 TI.hi38 TI.hz38 TI.hs38 TI.hby38 TI.hzs38 (by decide) rfl rfl rfl rfl (fun _ h=>rp9 h) (by rw [List.flatten_cons,List.flatten_nil,List.append_nil]; exact itC_one hq1) (by unfold maxLen; rw [List.nil_append]; omega) (by rw [List.nil_append]; omega) (fun v30=>?_)) ?_
       ·
        refine ⟨⟨rfl,rfl,trivial⟩,?_⟩
        refine AH_turn (P':=rowR itC 2 38 v30 (x.2.2 ++ [(ins.getD x.1 it0)])) 152 rfl (fun h hp=>row_it hp) ?_
        refine (Y9 [9] ?_)
        refine Z9 rfl rfl (Oc9 200 [0,5,6,7,151,152,153] [] rfl Tryz.call21 rfl rfl rfl (by decide) (by decide) (good_next hlt.1 hlt.2 hxm his v30 _ (rs9 5 rfl rowR_rd) (datI_star 2 rfl (fun _ h=>h))) (fun v31 Ps31 hR31=>?_)) ?_
        ·
         obtain ⟨vt,idt,mt,lt,rfl,rfl,hit,hvt,_,_⟩:=hR31
         refine ⟨⟨rfl,rfl,trivial⟩,?_⟩
         refine (T9 10 rfl rfl (Pm9 rfl rfl) (T9 11 rfl rfl (Pe9 rfl rfl rfl) (T9 12 rfl rfl (Pe9 rfl rfl rfl) (Y9 [14] ?_))))
         refine Ac09 rfl rfl rfl (OpT_storeAll (r:=153) rfl Tryz.sizeOf50 rfl rfl rfl (refC_len zeroId_length) (refC_len hit) (refC_one hvt) ?_) ?_
         ·
          refine ⟨⟨rfl,rfl,trivial⟩,?_⟩
          refine (T9 15 rfl rfl (Pg9 rfl rfl) (Ad9 (by kernel_rfl) ?_))
          exact X_cut () trivial (a9 rfl) (a9 rfl)
         exact An9
        exact An9
       exact An9
      exact An9
     refine Z9 rfl rfl (OpT_alloc (r:=153) (cs:=(refC (.slice none 0 0) zeroId false)) rfl (zero_run (by kernel_rfl:(Tryz.prog.info? 50).bind (·.zero) = some (.agg (refC (.slice none 0 0) zeroId false).toArray))) rfl (fun g153=>⟨⟨rfl,rfl,trivial⟩,?_⟩)) ?_
     ·
      refine (Y9 [2] ?_)
      refine Z9 rfl rfl (Oa9 (r:=152) (r2:=7) rfl Tryz.underlying24 TI.hi38 TI.hz38 TI.hs38 TI.hby38 TI.hzs38 (by decide) rfl rfl rfl rfl rowR_rd hones (by unfold maxLen; rw [List.length_nil]; omega) (by rw [List.length_nil]; omega) (fun v24=>?_)) ?_
      ·
       refine ⟨⟨rfl,rfl,trivial⟩,?_⟩
       refine AH_turn (P':=rowR itC 2 38 v24 ([] ++ x.2.2)) 152 rfl (fun h hp=>row_its hp (by rw [List.length_nil]) rfl) ?_
       refine (Y9 [8] ?_)
       refine Z9 rfl rfl (Oa9 (r:=152) (r2:=151) rfl Tryz.underlying24 TI.hi38 TI.hz38 TI.hs38 TI.hby38 TI.hzs38 (by decide) rfl rfl rfl rfl (fun _ h=>rp9 h) (by rw [List.flatten_cons,List.flatten_nil,List.append_nil]; exact itC_one hq1) (by unfold maxLen; rw [List.nil_append]; omega) (by rw [List.nil_append]; omega) (fun v30=>?_)) ?_
       ·
        refine ⟨⟨rfl,rfl,trivial⟩,?_⟩
        refine AH_turn (P':=rowR itC 2 38 v30 (x.2.2 ++ [(ins.getD x.1 it0)])) 152 rfl (fun h hp=>row_it hp) ?_
        refine (Y9 [9] ?_)
        refine Z9 rfl rfl (Oc9 200 [0,5,6,7,151,152,153] [] rfl Tryz.call21 rfl rfl rfl (by decide) (by decide) (good_next hlt.1 hlt.2 hxm his v30 _ (rs9 5 rfl rowR_rd) (datI_star 2 rfl (fun _ h=>h))) (fun v31 Ps31 hR31=>?_)) ?_
        ·
         obtain ⟨vt,idt,mt,lt,rfl,rfl,hit,hvt,_,_⟩:=hR31
         refine ⟨⟨rfl,rfl,trivial⟩,?_⟩
         refine (T9 10 rfl rfl (Pm9 rfl rfl) (T9 11 rfl rfl (Pe9 rfl rfl rfl) (T9 12 rfl rfl (Pe9 rfl rfl rfl) (Y9 [14] ?_))))
         refine Ac09 rfl rfl rfl (OpT_storeAll (r:=153) rfl Tryz.sizeOf50 rfl rfl rfl (refC_len zeroId_length) (refC_len hit) (refC_one hvt) ?_) ?_
         ·
          refine ⟨⟨rfl,rfl,trivial⟩,?_⟩
          refine (T9 15 rfl rfl (Pg9 rfl rfl) (Ad9 (by kernel_rfl) ?_))
          exact X_cut () trivial (a9 rfl) (a9 rfl)
         exact An9
        exact An9
       exact An9
      exact An9
     exact An9
    refine Z9 rfl rfl (OpT_alloc (r:=152) (cs:=(refC (.slice none 0 0) zeroId false)) rfl (zero_run (by kernel_rfl:(Tryz.prog.info? 50).bind (·.zero) = some (.agg (refC (.slice none 0 0) zeroId false).toArray))) rfl (fun g152=>⟨⟨rfl,rfl,trivial⟩,?_⟩)) ?_
    ·
     refine (Y9 [0] ?_)
     refine Z9 rfl rfl (OpT_buildRows (r:=153) [] rfl rfl Tryz.runUnderlying24 Tryz.sizeOf38 Tryz.zeroValue38 rfl (by decide) rfl (by decide) (by intro r hr; simp at hr) rfl (fun v22=>⟨⟨rfl,rfl,trivial⟩,?_⟩)) ?_
     ·
      refine AH_turn (P':=rowR itC 2 38 v22 []) 153 rfl (fun h hp=>hp) ?_
      refine (Y9 [2] ?_)
      refine Z9 rfl rfl (Oa9 (r:=153) (r2:=7) rfl Tryz.underlying24 TI.hi38 TI.hz38 TI.hs38 TI.hby38 TI.hzs38 (by decide) rfl rfl rfl rfl rowR_rd hones (by unfold maxLen; rw [List.length_nil]; omega) (by rw [List.length_nil]; omega) (fun v24=>?_)) ?_
      ·
       refine ⟨⟨rfl,rfl,trivial⟩,?_⟩
       refine AH_turn (P':=rowR itC 2 38 v24 ([] ++ x.2.2)) 153 rfl (fun h hp=>row_its hp (by rw [List.length_nil]) rfl) ?_
       refine (Y9 [8] ?_)
       refine Z9 rfl rfl (Oa9 (r:=153) (r2:=151) rfl Tryz.underlying24 TI.hi38 TI.hz38 TI.hs38 TI.hby38 TI.hzs38 (by decide) rfl rfl rfl rfl (fun _ h=>rp9 h) (by rw [List.flatten_cons,List.flatten_nil,List.append_nil]; exact itC_one hq1) (by unfold maxLen; rw [List.nil_append]; omega) (by rw [List.nil_append]; omega) (fun v30=>?_)) ?_
       ·
        refine ⟨⟨rfl,rfl,trivial⟩,?_⟩
        refine AH_turn (P':=rowR itC 2 38 v30 (x.2.2 ++ [(ins.getD x.1 it0)])) 153 rfl (fun h hp=>row_it hp) ?_
        refine (Y9 [9] ?_)
        refine Z9 rfl rfl (Oc9 200 [0,5,6,7,151,152,153] [] rfl Tryz.call21 rfl rfl rfl (by decide) (by decide) (good_next hlt.1 hlt.2 hxm his v30 _ (rs9 6 rfl rowR_rd) (datI_star 2 rfl (fun _ h=>h))) (fun v31 Ps31 hR31=>?_)) ?_
        ·
         obtain ⟨vt,idt,mt,lt,rfl,rfl,hit,hvt,_,_⟩:=hR31
         refine ⟨⟨rfl,rfl,trivial⟩,?_⟩
         refine (T9 10 rfl rfl (Pm9 rfl rfl) (T9 11 rfl rfl (Pe9 rfl rfl rfl) (T9 12 rfl rfl (Pe9 rfl rfl rfl) (Y9 [14] ?_))))
         refine Ac09 rfl rfl rfl (OpT_storeAll (r:=152) rfl Tryz.sizeOf50 rfl rfl rfl (refC_len zeroId_length) (refC_len hit) (refC_one hvt) ?_) ?_
         ·
          refine ⟨⟨rfl,rfl,trivial⟩,?_⟩
          refine (T9 15 rfl rfl (Pg9 rfl rfl) (Ad9 (by kernel_rfl) ?_))
          exact X_cut () trivial (a9 rfl) (a9 rfl)
         exact An9
        exact An9
       exact An9
      exact An9
     exact An9
    exact An9
   refine Z9 rfl rfl (OpT_alloc (r:=151) (cs:=(refC (.slice none 0 0) zeroId false)) rfl (zero_run (by kernel_rfl:(Tryz.prog.info? 50).bind (·.zero) = some (.agg (refC (.slice none 0 0) zeroId false).toArray))) rfl (fun g151=>⟨⟨rfl,rfl,trivial⟩,?_⟩)) ?_
   ·
    refine (Y9 [0,7] ?_)
    refine Z9 rfl rfl (OpT_buildRows (r:=152) [] rfl rfl Tryz.runUnderlying24 Tryz.sizeOf38 Tryz.zeroValue38 rfl (by decide) rfl (by decide) (by intro r hr; simp at hr) rfl (fun v22=>⟨⟨rfl,rfl,trivial⟩,?_⟩)) ?_
    ·
     refine AH_turn (P':=rowR itC 2 38 v22 []) 152 rfl (fun h hp=>hp) ?_
     refine (Y9 [2,7] ?_)
     refine Z9 rfl rfl (Oa9 (r:=152) (r2:=7) rfl Tryz.underlying24 TI.hi38 TI.hz38 TI.hs38 TI.hby38 TI.hzs38 (by decide) rfl rfl rfl rfl rowR_rd hones (by unfold maxLen; rw [List.length_nil]; omega) (by rw [List.length_nil]; omega) (fun v24=>?_)) ?_
     ·
      refine ⟨⟨rfl,rfl,trivial⟩,?_⟩
      refine AH_turn (P':=rowR itC 2 38 v24 ([] ++ x.2.2)) 152 rfl (fun h hp=>row_its hp (by rw [List.length_nil]) rfl) ?_
      refine (Y9 [7] ?_)
      refine Z9 rfl rfl (OpT_buildRows (r:=153) [itC (ins.getD x.1 it0)] rfl rfl Tryz.runUnderlying24 Tryz.sizeOf38 Tryz.zeroValue38 rfl (by decide) rfl (by decide) (by intro r hr; simp at hr; rw [hr]; rfl) rfl (fun v29=>⟨⟨rfl,rfl,trivial⟩,?_⟩)) ?_
      ·
       refine (Y9 [8] ?_)
       refine Z9 rfl rfl (Oa9 (r:=152) (r2:=153) rfl Tryz.underlying24 TI.hi38 TI.hz38 TI.hs38 TI.hby38 TI.hzs38 (by decide) rfl rfl rfl rfl (fun _ h=>rp9 h) (by rw [List.flatten_cons,List.flatten_nil,List.append_nil]; exact itC_one hq1) (by unfold maxLen; rw [List.nil_append]; omega) (by rw [List.nil_append]; omega) (fun v30=>?_)) ?_
       ·
        refine ⟨⟨rfl,rfl,trivial⟩,?_⟩
        refine AH_turn (P':=rowR itC 2 38 v30 (x.2.2 ++ [(ins.getD x.1 it0)])) 152 rfl (fun h hp=>row_it hp) ?_
        refine (Y9 [9] ?_)
        refine Z9 rfl rfl (Oc9 200 [0,5,6,7,151,152,153] [] rfl Tryz.call21 rfl rfl rfl (by decide) (by decide) (good_next hlt.1 hlt.2 hxm his v30 _ (rs9 5 rfl rowR_rd) (datI_star 2 rfl (fun _ h=>h))) (fun v31 Ps31 hR31=>?_)) ?_
        ·
         obtain ⟨vt,idt,mt,lt,rfl,rfl,hit,hvt,_,_⟩:=hR31
         refine ⟨⟨rfl,rfl,trivial⟩,?_⟩
         refine (T9 10 rfl rfl (Pm9 rfl rfl) (T9 11 rfl rfl (Pe9 rfl rfl rfl) (T9 12 rfl rfl (Pe9 rfl rfl rfl) (Y9 [14] ?_))))
         refine Ac09 rfl rfl rfl (OpT_storeAll (r:=151) rfl Tryz.sizeOf50 rfl rfl rfl (refC_len zeroId_length) (refC_len hit) (refC_one hvt) ?_) ?_
         ·
          refine ⟨⟨rfl,rfl,trivial⟩,?_⟩
          refine (T9 15 rfl rfl (Pg9 rfl rfl) (Ad9 (by kernel_rfl) ?_))
          exact X_cut () trivial (a9 rfl) (a9 rfl)
         exact An9
        exact An9
       exact An9
      exact An9
     refine Z9 rfl rfl (OpT_buildRows (r:=153) [itC (ins.getD x.1 it0)] rfl rfl Tryz.runUnderlying24 Tryz.sizeOf38 Tryz.zeroValue38 rfl (by decide) rfl (by decide) (by intro r hr; simp at hr; rw [hr]; rfl) rfl (fun v29=>⟨⟨rfl,rfl,trivial⟩,?_⟩)) ?_
     ·
      refine (Y9 [2] ?_)
      refine Z9 rfl rfl (Oa9 (r:=152) (r2:=7) rfl Tryz.underlying24 TI.hi38 TI.hz38 TI.hs38 TI.hby38 TI.hzs38 (by decide) rfl rfl rfl rfl rowR_rd hones (by unfold maxLen; rw [List.length_nil]; omega) (by rw [List.length_nil]; omega) (fun v24=>?_)) ?_
      ·
       refine ⟨⟨rfl,rfl,trivial⟩,?_⟩
       refine AH_turn (P':=rowR itC 2 38 v24 ([] ++ x.2.2)) 152 rfl (fun h hp=>row_its hp (by rw [List.length_nil]) rfl) ?_
       refine (Y9 [8] ?_)
       refine Z9 rfl rfl (Oa9 (r:=152) (r2:=153) rfl Tryz.underlying24 TI.hi38 TI.hz38 TI.hs38 TI.hby38 TI.hzs38 (by decide) rfl rfl rfl rfl (fun _ h=>rp9 h) (by rw [List.flatten_cons,List.flatten_nil,List.append_nil]; exact itC_one hq1) (by unfold maxLen; rw [List.nil_append]; omega) (by rw [List.nil_append]; omega) (fun v30=>?_)) ?_
       ·
        refine ⟨⟨rfl,rfl,trivial⟩,?_⟩
        refine AH_turn (P':=rowR itC 2 38 v30 (x.2.2 ++ [(ins.getD x.1 it0)])) 152 rfl (fun h hp=>row_it hp) ?_
        refine (Y9 [9] ?_)
        refine Z9 rfl rfl (Oc9 200 [0,5,6,7,151,152,153] [] rfl Tryz.call21 rfl rfl rfl (by decide) (by decide) (good_next hlt.1 hlt.2 hxm his v30 _ (rs9 5 rfl rowR_rd) (datI_star 2 rfl (fun _ h=>h))) (fun v31 Ps31 hR31=>?_)) ?_
        ·
         obtain ⟨vt,idt,mt,lt,rfl,rfl,hit,hvt,_,_⟩:=hR31
         refine ⟨⟨rfl,rfl,trivial⟩,?_⟩
         refine (T9 10 rfl rfl (Pm9 rfl rfl) (T9 11 rfl rfl (Pe9 rfl rfl rfl) (T9 12 rfl rfl (Pe9 rfl rfl rfl) (Y9 [14] ?_))))
         refine Ac09 rfl rfl rfl (OpT_storeAll (r:=151) rfl Tryz.sizeOf50 rfl rfl rfl (refC_len zeroId_length) (refC_len hit) (refC_one hvt) ?_) ?_
         ·
          refine ⟨⟨rfl,rfl,trivial⟩,?_⟩
          refine (T9 15 rfl rfl (Pg9 rfl rfl) (Ad9 (by kernel_rfl) ?_))
          exact X_cut () trivial (a9 rfl) (a9 rfl)
         exact An9
        exact An9
       exact An9
      exact An9
     exact An9
    refine Z9 rfl rfl (OpT_buildRows (r:=152) [itC (ins.getD x.1 it0)] rfl rfl Tryz.runUnderlying24 Tryz.sizeOf38 Tryz.zeroValue38 rfl (by decide) rfl (by decide) (by intro r hr; simp at hr; rw [hr]; rfl) rfl (fun v29=>⟨⟨rfl,rfl,trivial⟩,?_⟩)) ?_
    ·
     refine (Y9 [0] ?_)
     refine Z9 rfl rfl (OpT_buildRows (r:=153) [] rfl rfl Tryz.runUnderlying24 Tryz.sizeOf38 Tryz.zeroValue38 rfl (by decide) rfl (by decide) (by intro r hr; simp at hr) rfl (fun v22=>⟨⟨rfl,rfl,trivial⟩,?_⟩)) ?_
     ·
      refine AH_turn (P':=rowR itC 2 38 v22 []) 153 rfl (fun h hp=>hp) ?_
      refine (Y9 [2] ?_)
      refine Z9 rfl rfl (Oa9 (r:=153) (r2:=7) rfl Tryz.underlying24 TI.hi38 TI.hz38 TI.hs38 TI.hby38 TI.hzs38 (by decide) rfl rfl rfl rfl rowR_rd hones (by unfold maxLen; rw [List.length_nil]; omega) (by rw [List.length_nil]; omega) (fun v24=>?_)) ?_
      ·
       refine ⟨⟨rfl,rfl,trivial⟩,?_⟩
       refine AH_turn (P':=rowR itC 2 38 v24 ([] ++ x.2.2)) 153 rfl (fun h hp=>row_its hp (by rw [List.length_nil]) rfl) ?_
       refine (Y9 [8] ?_)
       refine Z9 rfl rfl (Oa9 (r:=153) (r2:=152) rfl Tryz.underlying24 TI.hi38 TI.hz38 TI.hs38 TI.hby38 TI.hzs38 (by decide) rfl rfl rfl rfl (fun _ h=>rp9 h) (by rw [List.flatten_cons,List.flatten_nil,List.append_nil]; exact itC_one hq1) (by unfold maxLen; rw [List.nil_append]; omega) (by rw [List.nil_append]; omega) (fun v30=>?_)) ?_
       ·
        refine ⟨⟨rfl,rfl,trivial⟩,?_⟩
        refine AH_turn (P':=rowR itC 2 38 v30 (x.2.2 ++ [(ins.getD x.1 it0)])) 153 rfl (fun h hp=>row_it hp) ?_
        refine (Y9 [9] ?_)
        refine Z9 rfl rfl (Oc9 200 [0,5,6,7,151,152,153] [] rfl Tryz.call21 rfl rfl rfl (by decide) (by decide) (good_next hlt.1 hlt.2 hxm his v30 _ (rs9 6 rfl rowR_rd) (datI_star 2 rfl (fun _ h=>h))) (fun v31 Ps31 hR31=>?_)) ?_
        ·
         obtain ⟨vt,idt,mt,lt,rfl,rfl,hit,hvt,_,_⟩:=hR31
         refine ⟨⟨rfl,rfl,trivial⟩,?_⟩
         refine (T9 10 rfl rfl (Pm9 rfl rfl) (T9 11 rfl rfl (Pe9 rfl rfl rfl) (T9 12 rfl rfl (Pe9 rfl rfl rfl) (Y9 [14] ?_))))
         refine Ac09 rfl rfl rfl (OpT_storeAll (r:=151) rfl Tryz.sizeOf50 rfl rfl rfl (refC_len zeroId_length) (refC_len hit) (refC_one hvt) ?_) ?_
         ·
          refine ⟨⟨rfl,rfl,trivial⟩,?_⟩
          refine (T9 15 rfl rfl (Pg9 rfl rfl) (Ad9 (by kernel_rfl) ?_))
          exact X_cut () trivial (a9 rfl) (a9 rfl)
         exact An9
        exact An9
       exact An9
      exact An9
     exact An9
    exact An9
   exact An9
  ·
   refine Q9 (R9 (M9 rfl rfl (L9 rfl (Pn9 rfl rfl rfl (run_eql _ _ _ _ _ _)) (N9 (X9 ?_)))))
   refine C9 rfl (fun hc35=>?_) (fun hc35=>?_)
   ·
    have hb35:buildE (x.2.2 ++ [(ins.getD x.1 it0)]) = 0:=by have:=of_decide_eq_true hc35; omega
    refine R9 (M9 rfl rfl (M9 rfl rfl (M9 rfl rfl (L9 rfl (Pi9 (r:=5) rfl Tryz.runUnderlying24 Tryz.sizeOf38 rfl rfl rfl rowR_rd (by omega)) (L9 rfl (Pz9 (r:=5) rfl Tryz.isAgg38 Tryz.sizeOf38 rfl rfl rowR_rd rfl (by decide) (its_all hlt.1)) (Lc9 rfl rfl (by decide) (OpT_buildRows (r:=151) [itC (ins.getD x.1 it0)] rfl rfl Tryz.runUnderlying24 Tryz.sizeOf38 Tryz.zeroValue38 rfl (by decide) rfl (by decide) (by intro r hr; simp at hr; rw [hr]; rfl) rfl (fun v41=>(Lc9 rfl rfl (by decide) (Oa9 (r:=7) (r2:=151) rfl Tryz.underlying24 TI.hi38 TI.hz38 TI.hs38 TI.hby38 TI.hzs38 (by decide) rfl rfl rfl rfl (fun _ h=>rp9 h) (by rw [List.flatten_cons,List.flatten_nil,List.append_nil]; exact itC_one hq1) (by unfold maxLen; omega) (by omega) (fun v42=>?_)))))))))))
    refine Lt9 (P':=rowR itC 2 38 v42 (x.2.2 ++ [(ins.getD x.1 it0)])) (r:=7) rfl (fun h hp=>row_it hp) ?_
    refine (G9 rfl rfl (N9 (X_block (X9 ?_))))
    refine R9 (M9 rfl rfl (L9 rfl (Pn9 rfl rfl rfl (run_add _ _ _ _ _ (by omega))) (G9 rfl rfl (N9 ?_))))
    exact Xr9 (x.1 + 1,v42,x.2.2 ++ [(ins.getD x.1 it0)]) ⟨by dsimp only; omega,by dsimp only; rw [List.length_append,List.length_singleton]; omega,by dsimp only; rw [List.length_append,List.length_singleton]; omega,fun q hq=>(List.mem_append.1 hq).elim (hxm q) (fun h=>by rw [List.mem_singleton.1 h]; exact it_get hlt.1),hb35,(good_in hxt hlt.2 (tag_getD hlt.1)).1 hb35⟩ (by dsimp only; omega) (a9 rfl) (a9 rfl)
   ·
    have hb36:¬ buildE (x.2.2 ++ [(ins.getD x.1 it0)]) = 0:=by have:=of_decide_eq_false hc35; omega
    refine K9 (X_block (X9 ?_))
    refine R9 (M9 rfl rfl (L9 rfl (Pn9 rfl rfl rfl (run_add _ _ _ _ _ (by omega))) (G9 rfl rfl (N9 ?_))))
    exact Xr9 (x.1 + 1,x.2.1,x.2.2) ⟨by dsimp only; omega,by dsimp only; omega,hx20,hxm,hxb,(good_in hxt hlt.2 (tag_getD hlt.1)).2 hb36⟩ (by dsimp only; omega) (a9 rfl) (a9 rfl)
 ·
  have hxe:x.2.2.map tagF = goodF fs:=good_end hit9 hxt hx (by simp only [Bool.and_eq_false_iff,decide_eq_false_iff_not] at hc18; omega)
  refine W_exit (X_then_exit (X_then_exit (X_block_exit (X9 ?_))))
  refine Q9 (R9 (M9 rfl rfl (G9 rfl rfl (N9 (X9 ?_)))))
  refine W_ret ?_
  refine X_turn (P':=datI x.2.2) 6 rfl (fun h hp=>dat_sub hp hxm) ?_
  refine X_join [7,6] 7 (itemsP x.2.1 x.2.2) rfl (by decide) (fun h hs=>hs) ?_
  exact Xq9 [7] (Ps:=[_]) (res1 Tryz.results14 rfl) rfl (by decide) ⟨x.2.2,hxb,hx20,fun q hq=>his q (hxm q hq),hxe,rfl⟩
open Go.RowKit
set_option maxRecDepth 8000
theorem dat_subE {es zs:List EB} {h:Hlt} (hp:datE es h) (hs:∀ b ∈ zs,b ∈ es):datE zs h:=fun b hb=>hp b (hs b hb)
def setD (v:Value) (hv:v.oneCell' = true) (d:List UInt8) (x:EB):EB:=(⟨(x.1.key,v,x.1.src,x.1.exp),x.1.len,hv⟩,d)
theorem rec_set {α:Type} {f:α→List Value} {S:Nat} {es:List α} (h:∀ e ∈ es,(f e).length = S) {k j:Nat} (hk:k < es.length) (hj:j < S) {x:α} {u:Value} (hx:(f es[k]).set j u = f x):(recC f es).set (k * S + j) u = recC f (es.set k x):=by
  induction es generalizing k with
  | nil=>cases hk
  | cons e es ih =>
    have he:=h e (by simp)
    cases k with
    | zero =>
      rw [Nat.zero_mul,Nat.zero_add]
      show (f e ++ recC f es).set j u = _
      rw [List.set_append_left _ _ (by rw [he]; exact hj)]
      show _ = f x ++ recC f es
      rw [← hx]
      rfl
    | succ k =>
      show (f e ++ recC f es).set _ u = f e ++ recC f (es.set k x)
      have hle:S + k * S + j = (k + 1) * S + j:=by rw [Nat.succ_mul]; omega
      rw [List.set_append_right _ _ (by rw [he,← hle]; omega)]
      congr 1
      rw [he,← hle,show S + k * S + j - S = k * S + j by omega]
      exact ih (fun e he=>h e (by simp [he])) (by simpa using hk) (by simpa using hx)
theorem eb_setD {es:List EB} {k:Nat} {b:EB} (hb:es[k]? = some b) (v:Value) (hv:v.oneCell' = true) (d:List UInt8):(recC bvC (es.map (fun p:EB=>p.1))).set (k * 35 + 32) v = recC bvC ((es.set k (setD v hv d b)).map (fun p:EB=>p.1)):=by
  obtain ⟨hk,he⟩:=List.getElem?_eq_some_iff.1 hb
  rw [List.map_set]
  refine rec_set (bvs_len (es.map (fun p:EB=>p.1))) (by rw [List.length_map]; exact hk) (by decide) ?_
  rw [List.getElem_map,he]
  exact bk_set_data b.1.len v
theorem datE_set {es:List EB} {m:Nat} {v:Value} {hv:v.oneCell' = true} {dd:List UInt8} {b:EB} {t:TypeId} {h:Hlt} (hs:starL [datE es,rowB t v dd] h):datE (es.set m (setD v hv dd b)) h:=fun p hp =>
  (List.mem_or_eq_of_mem_set hp).elim (fun hp=>starL_le hs (φ:=rdB p.1.sl p.2) 0 rfl fun h' h1 h2=>rdP_le h2 (h1 p hp)) (fun he=>by rw [he]; exact starL_le hs (φ:=rdB v dd) 1 rfl fun h' h1 h2=>rdP_le h2 (rp9 h1))
theorem run_tdiv {P:Program} (a b:Int) (t:TypeId) (x y:Operand) (h:b≠0) (w:World):((do eqGuard .quo t x y (.int .i64 a) (.int .i64 b); binOp .quo t (.int .i64 a) (.int .i64 b):Sem Value)).run P w = .ok (.int .i64 (IntKind.i64.wrap (a.tdiv b))) w:=by
  simp [eqGuard,binOp,Op.intDiv,h]
open Go.RowKit
set_option maxRecDepth 8000
theorem parts_tag {xs ys:List F3} (h:xs.map tagF = ys.map tagF):partsN xs = partsN ys:=by
  have e:∀ zs:List F3,partsN zs = (zs.map tagF).map fun t=>((splitN t.1).1,t.2):=fun zs=>by rw [List.map_map]; rfl
  rw [e,e,h]
def newE (v:Value) (hv:v.oneCell' = true) (d:List UInt8):EB:=(⟨(sha d,v,0,0),sha_length d,hv⟩,d)
def setS (s:Int) (x:EB):EB:=(⟨(x.1.key,x.1.sl,s,x.1.exp),x.1.len,x.1.one⟩,x.2)
theorem bk_set_srcT {k:List UInt8} {v:Value} {s e:Int} (h:k.length = 32) (s':Int):(bkC k v s e).set 33 (.int .i64 s') = bkC k v s' e:=by
  unfold bkC
  rw [List.set_append_right _ _ (by rw [bs_length]; omega),bs_length,h]
  rfl
theorem eb_setS {es:List EB} {k:Nat} {b:EB} (hb:es[k]? = some b) (s:Int):(recC bvC (es.map (fun p:EB=>p.1))).set (k * 35 + 33) (.int .i64 s) = recC bvC ((es.set k (setS s b)).map (fun p:EB=>p.1)):=by
  obtain ⟨hk,he⟩:=List.getElem?_eq_some_iff.1 hb
  rw [List.map_set]
  refine rec_set (bvs_len (es.map (fun p:EB=>p.1))) (by rw [List.length_map]; exact hk) (by decide) ?_
  rw [List.getElem_map,he]
  exact bk_set_srcT b.1.len s
theorem datE_src {es:List EB} {m:Nat} {b:EB} {s:Int} (hb:es[m]? = some b) {h:Hlt} (hp:datE es h):datE (es.set m (setS s b)) h:=fun p hpm =>
  (List.mem_or_eq_of_mem_set hpm).elim (fun hq=>hp p hq) (fun he=>by rw [he]; exact hp b (List.mem_of_getElem? hb))
theorem del_eb {es:List EB} {m cap:Nat} {cs:List Value} (hm:m < es.length) (hnc:es.length≤cap) (hcs:cs.length = cap * 35) (htk:cs.take (es.length * 35) = recC bvC (es.map (fun p:EB=>p.1))):(over cs (m * 35) (((recC bvC (es.map (fun p:EB=>p.1))).drop ((m + 1) * 35)).take ((es.length - (m + 1)) * 35))).take ((m + (es.length - (m + 1))) * 35) = recC bvC ((es.take m ++ es.drop (m + 1)).map (fun p:EB=>p.1)):=by
  obtain ⟨A,hA⟩:∃ A,A = recC bvC ((es.take m).map (fun p:EB=>p.1)):=⟨_,rfl⟩
  obtain ⟨B,hB⟩:∃ B,B = recC bvC ((es.drop (m + 1)).map (fun p:EB=>p.1)):=⟨_,rfl⟩
  have hAl:A.length = m * 35:=by rw [hA,ebC_len,List.length_take,Nat.min_eq_left (by omega)]
  have hBl:B.length = (es.length - (m + 1)) * 35:=by rw [hB,ebC_len,List.length_drop]
  have h1:es = es.take (m + 1) ++ es.drop (m + 1):=(List.take_append_drop _ _).symm
  have hC:(recC bvC ((es.take (m + 1)).map (fun p:EB=>p.1))).length = (m + 1) * 35:=by rw [ebC_len,List.length_take,Nat.min_eq_left (by omega)]
  have e1:recC bvC (es.map (fun p:EB=>p.1)) = recC bvC ((es.take (m + 1)).map (fun p:EB=>p.1)) ++ B:=by
    rw [hB,← recC_append,← List.map_append,List.take_append_drop]
  have e2:recC bvC (es.map (fun p:EB=>p.1)) = A ++ recC bvC ((es.drop m).map (fun p:EB=>p.1)):=by
    rw [hA,← recC_append,← List.map_append,List.take_append_drop]
  have e3:(recC bvC (es.map (fun p:EB=>p.1))).drop ((m + 1) * 35) = B:=by rw [e1,List.drop_left' hC]
  have e4:cs.take (m * 35) = A:=by
    have h2:(cs.take (es.length * 35)).take (m * 35) = A:=by rw [htk,e2,List.take_left' hAl]
    rw [List.take_take,Nat.min_eq_left (Nat.mul_le_mul_right 35 (by omega))] at h2
    exact h2
  have e5:recC bvC ((es.take m ++ es.drop (m + 1)).map (fun p:EB=>p.1)) = A ++ B:=by rw [List.map_append,recC_append,← hA,← hB]
  rw [e3,e5,List.take_of_length_le (l:=B) (by rw [hBl]; exact Nat.le_refl _)]
  have e6:(A ++ B).length = (m + (es.length - (m + 1))) * 35:=by rw [List.length_append,hAl,hBl,Nat.add_mul]
  unfold over
  rw [e4,← List.append_assoc,List.take_left' e6]
theorem top_set {id:List UInt8} (hid:id.length = 32) (w:Value) (u:UInt8):(treeC w id).set 1 (bv u) = treeC w (id.set 0 u):=by
  cases id with
  | nil=>cases hid
  | cons x r=>rfl
theorem top_ne {id:List UInt8} (hid:id.length = 32) {y:UInt8} (hy:¬ (y.toNat:Int) = 0):id.set 0 (at0 id 0 + y)≠id:=by
  cases id with
  | nil=>cases hid
  | cons x r =>
    intro hc
    have h1:x + y = x:=by injection hc
    have h2:=congrArg UInt8.toNat h1
    rw [UInt8.toNat_add] at h2
    have:=x.toNat_lt
    have:=y.toNat_lt
    omega
theorem top_get {id:List UInt8} (hid:id.length = 32) (w:Value):(treeC w id)[1]? = some (bv (at0 id 0)):=by
  cases id with
  | nil=>cases hid
  | cons x r=>rfl
set_option maxHeartbeats 2000000 in
theorem treeSound_spec (v:Value) (fs:List FV) (a c:Int) (y:UInt8) (F:HP) (hF:∀ h,F h→rdFV v fs h) (hN:∀ h,F h→datFV fs h) (hT:∀ h,F h→tabsP h):CallsS Tryz.prog 10 #[v,.int .i64 a,.int .i64 c,bv y] F [] (fun r Ps=>r = .bool true∧Ps = []):=by
 refine callsS_enter Tryz.func10 rfl Tryz.ntmps10 (by simp) (fun E=>?_)
 refine Q9 (R9 (G9 rfl rfl (N9 (X9 (Q9 (Q9 (R9 (Lc9 rfl rfl (by decide) (Oc9 200 [0] [] rfl Tryz.call13 rfl rfl rfl (by decide) (by decide) (known10_spec _ (ts9 0 rfl hT)) (fun v15 Ps15 hR15=>?_))))))))))
 obtain ⟨rfl,rfl⟩:=hR15
 refine (L9 rfl (Pu_un rfl rfl (run_not _)) (N9 (X9 ?_)))
 refine W_false rfl (rfl) ?_
 refine K9 (X9 ?_)
 refine Q9 (Q9 (R9 (M9 rfl rfl (L9 rfl (Pn9 rfl rfl rfl (run_eql _ _ _ _ _ _)) (N9 (X9 ?_))))))
 refine C9 rfl (fun hc18=>?_) (fun hc18=>?_)
 ·
  refine Q9 (R9 (G9 rfl rfl (N9 (X9 ?_))))
  refine W_ret (X_then_ret ?_)
  exact Xq9 [] (Ps:=[]) (res1 Tryz.results10 rfl) rfl (by decide) ⟨rfl,rfl⟩
 ·
  have hy0:¬ ((y.toNat:Nat):Int) = 0:=of_decide_eq_false hc18
  refine K9 (X9 ?_)
  refine Q9 (R9 (M9 rfl rfl (Lc9 rfl rfl (by decide) (Oc9 300 [0] [] rfl Tryz.call14 rfl rfl rfl (by decide) (by decide) (good_spec9 v fs _ (rs9 0 rfl hF) (datFV_star 0 rfl hN)) (fun v21 Ps21 hR21=>?_)))))
  obtain ⟨xs,hxb,hxl,hxs,hxt,rfl⟩:=hR21
  skip
  refine (Lc9 rfl rfl (by decide) (Oc9 400 [0,300] [] rfl Tryz.call16 rfl rfl rfl (by decide) (by decide) (build_spec v21 xs (by omega) (short_big hxs) _ (rs9 1 rfl (fun _ hp=>itP_rd hp)) (datI_star 1 rfl (fun _ hp=>itP_dat hp)) (ts9 0 rfl hT)) (fun v22 Ps22 hR22=>?_)))
  obtain ⟨w0,id,l0,rfl,rfl,hid,_,hgood⟩:=hR22
  refine WL_fact (r:=400) rfl (fun h hp=>treeP_one hp) (fun (hvo:w0.oneCell' = true)=>?_)
  rw [hxb]
  refine (M9 rfl rfl (L9 rfl (Pe9 rfl rfl rfl) (L9 rfl (Pe9 rfl rfl rfl) (Lc9 rfl rfl (by decide) (OpT_alloc (r:=401) (cs:=(treeC (.slice none 0 0) zeroId)) rfl (zero_run (by kernel_rfl:(Tryz.prog.info? 31).bind (·.zero) = some (.agg (treeC (.slice none 0 0) zeroId).toArray))) rfl (fun g401=>(Lc09 rfl rfl (OpT_storeAll (r:=401) rfl Tryz.sizeOf31 rfl rfl rfl (treeC_length zeroId_length) (treeC_length hid) (treeC_one hvo) ?_))))))))
  refine (G9 rfl rfl (N9 (X9 ?_)))
  refine Q9 (Q9 (R9 (M9 rfl rfl (Lc9 rfl rfl (by decide) (Oc9 500 [0,300,400,401] [] rfl Tryz.call14 rfl rfl rfl (by decide) (by decide) (good_spec9 v fs _ (rs9 0 rfl hF) (datFV_star 0 rfl hN)) (fun v26 Ps26 hR26=>?_))))))
  obtain ⟨ys,hyb,hyl,hys,hyt,rfl⟩:=hR26
  skip
  refine (Lc9 rfl rfl (by decide) (Oc9 600 [0,300,400,401,500] [] rfl Tryz.call18 rfl rfl rfl (by decide) (by decide) (meets_spec v26 (.slice none 0 0) ys [] hyb build_none (by omega) (by decide) (short_big hys) (fun x hx=>absurd hx (by simp)) _ (rs9 4 rfl (fun _ hp=>itP_rd hp)) (datI_star 4 rfl (fun _ hp=>itP_dat hp)) (fun h _=>rd_nil0) (fun h _ x hx=>absurd hx (by simp))) (fun v27 Ps27 hR27=>?_)))
  obtain ⟨rfl,mm,rfl,hmm⟩:=hR27
  refine (N9 (X9 ?_))
  refine C9 rfl (fun hc27=>?_) (fun hc27=>?_)
  ·
   refine Q9 (R9 (G9 rfl rfl (N9 (X9 ?_))))
   refine W_ret (X_then_ret ?_)
   exact Xq9 [] (Ps:=[]) (res1 Tryz.results10 rfl) rfl (by decide) ⟨rfl,rfl⟩
  ·
   refine K9 (X9 ?_)
   refine Q9 (Q9 ?_)
   refine W_openTree 400 700 rfl (fun es hes=>?_)
   obtain ⟨Ta,hfa,hid2,hta⟩:=hgood hxb
   obtain ⟨hel,hdl⟩:=tree_small hfa hxb hxl hxs hta hes
   have hel2:es.length≤999999999999:=by have:=tree_len hfa hxb hta; rw [← hes,List.length_map] at this; exact Nat.le_trans this (by decide)
   have hw3:=whole3 hxb hfa hta (by rw [parts_tag (hxt.trans hyt.symm)]; exact (hmm hc27).left)
   have hsd:=built_sound hxb hw3 hta hes
   have huq:=uq_tree hta
   rw [← hes] at hsd huq
   subst hid2
   have hpos:=sound_pos hsd
   refine R9 (M9 rfl rfl (L9 rfl (Pn9 rfl rfl rfl (run_neq _ _ _ _ _ _)) (M9 rfl rfl (WL_gPT rfl rfl rfl rfl rfl (by decide) (Px9 (r:=401) rfl Tryz.isAgg31 Tryz.sizeOf31 rfl rfl (treeC_length hid) (load_all (treeC_length hid))) (WL_gT rfl rfl rfl rfl rfl (by decide) (Oc9 800 [0,401,700,701] [] rfl Tryz.call32 rfl rfl rfl (by decide) (by decide) (sound_spec es w0 (idT Ta) hid hel hdl _ (rs9 2 rfl (fun h hp=>by have h2:=rp9 hp; rw [List.length_map]; exact h2)) (ds9 3 rfl (fun _ h=>h)) (ts9 0 rfl hT)) (fun v32 Ps32 hR32=>?_)))))))
   obtain ⟨q32,rfl,hq32,rfl⟩:=hR32
   obtain rfl:q32 = true:=hq32.2 hsd
   refine (WL_gPT rfl rfl rfl rfl rfl (by decide) (Pu_un rfl rfl (run_not _)) (L9 rfl (Pu_pickF rfl rfl rfl rfl) (N9 (X9 ?_))))
   refine W_false rfl (rfl) ?_
   refine K9 (X9 ?_)
   refine Q9 (R9 (M9 rfl rfl (L9 rfl (F9 0 rfl rfl) (L9 rfl (Pb9 (r:=401) rfl Tryz.isAgg27 rfl rfl rfl) (L9 rfl (Pl9 (r:=700) rfl Tryz.runUnderlying27 rfl rfl (fun _ h=>rp9 h)) (Lc9 rfl rfl (by decide) (Oc9 900 [0,401,700,701] [] rfl Tryz.call15 rfl rfl rfl (by decide) (by decide) (within_spec c ((es.length:Nat):Int) (by omega) (by omega) _) (fun v39 Ps39 hR39=>?_))))))))
   obtain ⟨rfl,rfl⟩:=hR39
   obtain ⟨m,hm,hml⟩:∃ m:Nat,(c) % ((es.length:Nat):Int) = (m:Int)∧m < es.length:=⟨((c) % ((es.length:Nat):Int)).toNat,by have:=Int.emod_nonneg (c) (show ((es.length:Nat):Int)≠0 by omega); omega,by have h1:=Int.emod_nonneg (c) (show ((es.length:Nat):Int)≠0 by omega); have h2:=Int.emod_lt_of_pos (c) (show (0:Int) < ((es.length:Nat):Int) by omega); omega⟩
   rw [hm]
   refine (G9 rfl rfl (N9 (X9 ?_)))
   refine Q9 (R9 (Lc9 rfl rfl (by decide) (OpT_buildRows (r:=901) [] rfl rfl Tryz.runUnderlying27 Tryz.sizeOf59 Tryz.zeroValue59 rfl (by decide) rfl (by decide) (by intro r hr; simp at hr) rfl (fun v40=>?_))))
   refine Lt9 (P':=rowP 59 35 v40 (([]:List EB)).length (recC bvC ((([]:List EB)).map (fun p:EB=>p.1)))) (r:=901) rfl (fun h hp=>hp) ?_
   refine (L9 rfl (F9 0 rfl rfl) (L9 rfl (Pb9 (r:=401) rfl Tryz.isAgg27 rfl rfl rfl) (Lc9 rfl rfl (by decide) (Oa9 (r:=901) (r2:=700) rfl Tryz.underlying27 TI.hi59 TI.hz59 TI.hs59 TI.hby59 TI.hzs59 (by decide) rfl rfl rfl rfl (fun _ h=>rp9 h) (recC_ones bvC_one) (by unfold maxLen; rw [List.length_nil]; omega) (by rw [List.length_nil]; omega) (fun v43=>?_)))))
   refine Lt9 (P':=rowP 59 35 v43 (es).length (recC bvC ((es).map (fun p:EB=>p.1)))) (r:=901) rfl (fun h hp=>row_nm hp (by rw [List.length_nil]; omega) (List.nil_append _)) ?_
   refine WL_fact (r:=901) rfl (fun h hp=>rd_one (rp9 hp)) (fun ho43=>?_)
   refine (G9 rfl rfl (N9 (X9 ?_)))
   refine W_cut (α:=Value × List EB × List UInt8) (fun z=>[(9,.pointer (some ⟨g401,0,none⟩)),(12,z.1)]) (fun z=>[(0,F),(701,datE z.2.1),(800,rowP 59 35 z.1 (z.2.1).length (recC bvC ((z.2.1).map (fun p:EB=>p.1)))),(401,blk g401 31 (treeC w0 z.2.2))]) (fun z=>z.1.oneCell' = true∧z.2.2.length = 32∧z.2.1.length≤1000000000000∧(∀ b ∈ z.2.1,b.2.length≤1000000000)∧¬ SoundV (viewT (z.2.1.map toTB)) z.2.1 z.2.2) ?_ (fun z hz=>?_)
   ·
    refine Q9 (R9 (M9 rfl rfl (Lc9 rfl rfl (by decide) (Oc9 1000 [0,401,700,701,901] [] rfl Tryz.call15 rfl rfl rfl (by decide) (by decide) (within_spec a 5 (by omega) (by omega) _) (fun v45 Ps45 hR45=>?_)))))
    obtain ⟨rfl,rfl⟩:=hR45
    refine (N9 (X9 ?_))
    refine W_block ?_
    refine Q9 (R9 (L9 rfl (Pn9 rfl rfl rfl (run_eql _ _ _ _ _ _)) (G9 rfl rfl (N9 (X9 ?_)))))
    refine C9 rfl (fun hc46=>?_) (fun hc46=>?_)
    ·
     refine W_openRow 901 rfl (by omega) (fun gr cap cs hv hnc hcm hcs htk=>?_)
     subst hv
     refine W_draw (N:=9) (by kernel_rfl) rfl [(0,_),(401,_)] ⟨rfl,rfl,trivial⟩ ?_
     refine (T9 0 rfl rfl (Pm9 rfl rfl) (T9 1 rfl rfl (Pm9 rfl rfl) (T9 2 rfl rfl (Pu_sliceK (a:=0) (b:=m) rfl Tryz.runUnderlying27 Tryz.sizeOf59 rfl (.inl ⟨rfl,rfl⟩) (.inr ⟨_,_,_,rfl,rfl,rfl⟩) (Nat.zero_le _) (by omega) (by omega)) (T9 3 rfl rfl (Pm9 rfl rfl) (T9 4 rfl rfl (Pm9 rfl rfl) (T9 5 rfl rfl (Pn9 rfl rfl rfl (run_add _ _ _ _ _ (by omega))) ?_))))))
     rw [show (m:Int) + 1 = ((m + 1:Nat):Int) by omega]
     refine (Y9 [6] ?_)
     refine Z9 rfl rfl (Or9 (Pu_slice (r:=901) (a:=(m + 1)) (b:=es.length) rfl Tryz.runUnderlying27 Tryz.sizeOf59 rfl rfl (fun _ h=>blk_rdP h hnc hcs htk) (.inr ⟨_,_,_,rfl,rfl,rfl⟩) (.inl ⟨rfl,rfl⟩) (by omega) (Nat.le_refl _)) ⟨⟨rfl,rfl,trivial⟩,?_⟩) ?_
     ·
      refine (Y9 [7] ?_)
      refine Z9 rfl rfl (OpT_appendIn (r:=901) (r2:=901) rfl Tryz.underlying27 TI.hi59 TI.hs59 (by decide) rfl rfl rfl rfl (fun h hp=>rdP_sub (a:=m + 1) (blk_rdP hp hnc hcs htk) (by omega) (Nat.le_refl _)) (fun u hu=>recC_ones bvC_one u (List.mem_of_mem_drop (List.mem_of_mem_take hu))) (by omega) (by rw [hcs]; exact Nat.mul_le_mul_right _ (by omega)) rfl ?_) ?_
      ·
       refine ⟨⟨rfl,rfl,trivial⟩,?_⟩
       refine (T9 8 rfl rfl (Pg9 rfl rfl) (Ad9 (by kernel_rfl) (X_block ?_)))
       refine X_turn (P':=rowP 59 35 (Value.slice (some ⟨gr,0,none⟩) (m + (es.length - (m + 1))) cap) (es.take m ++ es.drop (m + 1)).length (recC bvC ((es.take m ++ es.drop (m + 1)).map (fun p:EB=>p.1)))) 901 rfl (fun h hb=>row_nm (rowP_close (n:=m + (es.length - (m + 1))) hb (by omega) hcm (by rw [over_length _ _ _ (by rw [List.length_take,List.length_drop,ebC_len,hcs]; have:=Nat.mul_le_mul_right 35 hnc; omega),hcs]) rfl) (by rw [List.length_append,List.length_take,List.length_drop]; omega) (del_eb hml hnc hcs htk)) ?_
       refine X_turn (P':=datE (es.take m ++ es.drop (m + 1))) 701 rfl (fun h hp=>dat_subE hp fun b hb=>(List.mem_append.1 hb).elim (fun h=>List.mem_of_mem_take h) (fun h=>List.mem_of_mem_drop h)) ?_
       refine X_ren 901 800 rfl ?_
       exact X_cut ((Value.slice (some ⟨gr,0,none⟩) (m + (es.length - (m + 1))) cap),es.take m ++ es.drop (m + 1),(idT Ta)) ⟨rfl,hid,by dsimp only; rw [List.length_append,List.length_take,List.length_drop]; omega,fun b hb=>(List.mem_append.1 hb).elim (fun h=>hdl b (List.mem_of_mem_take h)) (fun h=>hdl b (List.mem_of_mem_drop h)),spoil_less huq hsd hml⟩ (a9 rfl) (a9 rfl)
      exact An9
     exact An9
    ·
     refine Q9 (R9 (L9 rfl (Pn9 rfl rfl rfl (run_eql _ _ _ _ _ _)) (G9 rfl rfl (N9 (X9 ?_)))))
     refine C9 rfl (fun hc56=>?_) (fun hc56=>?_)
     ·
      refine Q9 (R9 (M9 rfl rfl (Lc9 rfl rfl (by decide) (OpT_buildOnes (r:=1001) (bs [120,y]) rfl rfl Tryz.runUnderlying36 Tryz.sizeOf5 Tryz.zeroValue5 rfl rfl (by decide) rfl (bs_cells _) (fun v59=>?_)))))
      refine Lt9 (P':=rowB 5 v59 [120,y]) (r:=1001) rfl (fun h hp=>hp) ?_
      refine WL_fact (r:=1001) rfl (fun h hp=>rd_one (rowB_rd h hp)) (fun (ho59:v59.oneCell' = true)=>?_)
      refine (G9 rfl rfl (N9 (X9 ?_)))
      refine R9 (M9 rfl rfl (M9 rfl rfl (Lc9 rfl rfl (by decide) (Oc9 1100 [0,401,700,701,901,1001] [] rfl Tryz.call26 rfl rfl rfl (by decide) (by decide) (refSum_spec v59 [120,y] (by simp) _ (rs9 5 rfl rowB_rd)) (fun v62 Ps62 hR62=>?_)))))
      obtain ⟨rfl,rfl⟩:=hR62
      refine (M9 rfl rfl (L9 rfl (Pu_build (V:=.agg (bvC (newE v59 ho59 [120,y]).1).toArray) [(0,32),(32,1),(33,1),(34,1)] (bkC zeroId (.slice none 0 0) 0 0) rfl rfl (by kernel_rfl) (by kernel_rfl) (.many rfl ((bs_length _).trans (sha_length _)) (by rw [bkC_length zeroId_length]; decide) rfl (.one rfl ho59 (by rw [over_length,bkC_length zeroId_length] <;> first | decide | (rw [bs_length,sha_length,bkC_length zeroId_length]; decide)) rfl (.nil _))) (congrArg (fun q:List Value=>Value.agg q.toArray) (bk_build (sha_length [120,y])))) (Lc9 rfl rfl (by decide) (OpT_buildRows (r:=1101) [bvC (newE v59 ho59 [120,y]).1] rfl rfl Tryz.runUnderlying27 Tryz.sizeOf59 Tryz.zeroValue59 rfl (by decide) rfl (by decide) (by intro r hr; simp at hr; rw [hr]; exact bvC_length _) rfl (fun v65=>(Lc9 rfl rfl (by decide) (Oa9 (r:=901) (r2:=1101) rfl Tryz.underlying27 TI.hi59 TI.hz59 TI.hs59 TI.hby59 TI.hzs59 (by decide) rfl rfl rfl rfl (fun _ h=>rp9 h) (by intro u hu; simp at hu; exact bvC_one _ u hu) (by unfold maxLen; omega) (by omega) (fun v66=>?_))))))))
      refine Lt9 (P':=rowP 59 35 v66 (es ++ [(newE v59 ho59 [120,y])]).length (recC bvC ((es ++ [(newE v59 ho59 [120,y])]).map (fun p:EB=>p.1)))) (r:=901) rfl (fun h hp=>row_eb hp rfl rfl) ?_
      refine (G9 rfl rfl (N9 (X_block ?_)))
      refine X_join [701,1001] 701 (datE (es ++ [(newE v59 ho59 [120,y])])) rfl (by decide) (fun h hs=>datE_add (b:=(newE v59 ho59 [120,y])) hs) ?_
      refine X_fact (r:=901) rfl (fun h hp=>rd_one (rp9 hp)) (fun (ho66:v66.oneCell' = true)=>?_)
      refine X_ren 901 800 rfl ?_
      exact X_cut (v66,es ++ [(newE v59 ho59 [120,y])],(idT Ta)) ⟨ho66,hid,by dsimp only; rw [List.length_append,List.length_singleton]; omega,fun b hb=>(List.mem_append.1 hb).elim (hdl b) (fun h=>by rw [List.mem_singleton.1 h]; show 2≤1000000000; decide),spoil_more hsd _⟩ (a9 rfl) (a9 rfl)
     ·
      refine Q9 (R9 (L9 rfl (Pn9 rfl rfl rfl (run_eql _ _ _ _ _ _)) (G9 rfl rfl (N9 (X9 ?_)))))
      refine C9 rfl (fun hc67=>?_) (fun hc67=>?_)
      ·
       refine Q9 ?_
       obtain ⟨b,hb⟩:∃ b,es[m]? = some b:=⟨_,List.getElem?_eq_getElem hml⟩
       have hbm:=List.mem_of_getElem? hb
       have hbl:=hdl b hbm
       have hb0:=sound_ne huq hsd hb
       refine R9 (Lc9 rfl rfl (by decide) (OpT_buildOnes (r:=1001) [] rfl rfl Tryz.runUnderlying36 Tryz.sizeOf5 Tryz.zeroValue5 rfl rfl (by decide) rfl (by simp [Value.cells]) (fun v69=>(M9 rfl rfl (M9 rfl rfl (L9 rfl (Pi9 (r:=901) rfl Tryz.runUnderlying27 Tryz.sizeOf59 rfl rfl rfl (fun _ h=>rp9 h) (by omega)) (L9 rfl (Pu_fieldAddrE (off:=32) rfl rfl (by kernel_rfl)) (L9 rfl (Py9 (r:=901) rfl Tryz.isAgg36 rfl rfl (fun _ h=>rp9 h) (eb_data (k:=m) hb)) (Lc9 rfl rfl (by decide) (Oa9 (r:=1001) (r2:=701) rfl Tryz.underlying36 TI.hi5 TI.hz5 TI.hs5 TI.hby5 TI.hzs5 (by decide) rfl rfl rfl rfl (fun h hp=>hp b hbm) (bs_one _) (by unfold maxLen; rw [Nat.zero_add]; omega) (by rw [Nat.zero_add]; omega) (fun v75=>?_)))))))))))
       refine Lt9 (P':=rowB 5 v75 b.2) (r:=1001) rfl (fun h hp=>rowB_mk hp (Nat.zero_add _) (List.nil_append _)) ?_
       refine WL_fact (r:=1001) rfl (fun h hp=>rd_one (rp9 hp)) (fun ho75=>?_)
       refine (G9 rfl rfl (N9 (X9 ?_)))
       refine Q9 (R9 (M9 rfl rfl (M9 rfl rfl (L9 rfl (Pn9 rfl rfl rfl (run_tdiv _ 9 _ _ _ (by decide))) (M9 rfl rfl (L9 rfl (Pl9 (r:=1001) rfl Tryz.runUnderlying36 rfl rfl rowB_rd) (Lc9 rfl rfl (by decide) (Oc9 1100 [0,401,700,701,901,1001] [] rfl Tryz.call15 rfl rfl rfl (by decide) (by decide) (within_spec (IntKind.i64.wrap (c.tdiv 9)) ((b.2.length:Nat):Int) (by omega) (by omega) _) (fun v81 Ps81 hR81=>?_)))))))))
       obtain ⟨rfl,rfl⟩:=hR81
       obtain ⟨n,hn,hnl⟩:∃ m:Nat,(IntKind.i64.wrap (c.tdiv 9)) % ((b.2.length:Nat):Int) = (m:Int)∧m < b.2.length:=⟨((IntKind.i64.wrap (c.tdiv 9)) % ((b.2.length:Nat):Int)).toNat,by have:=Int.emod_nonneg (IntKind.i64.wrap (c.tdiv 9)) (show ((b.2.length:Nat):Int)≠0 by omega); omega,by have h1:=Int.emod_nonneg (IntKind.i64.wrap (c.tdiv 9)) (show ((b.2.length:Nat):Int)≠0 by omega); have h2:=Int.emod_lt_of_pos (IntKind.i64.wrap (c.tdiv 9)) (show (0:Int) < ((b.2.length:Nat):Int) by omega); omega⟩
       rw [hn]
       refine (L9 rfl (Pu_idxS1 (r:=1001) rfl Tryz.runUnderlying36 Tryz.sizeOf5 rfl rfl rfl rowB_rd (by omega)) (L9 rfl (Py9 (r:=1001) rfl Tryz.isAgg5 rfl rfl rowB_rd (bs_at1 (by omega))) (M9 rfl rfl (L9 rfl (Pn9 rfl rfl rfl (run_addU8 (at0 b.2 n) y _ _ _)) (L9 rfl (Pu_idxS1 (r:=1001) rfl Tryz.runUnderlying36 Tryz.sizeOf5 rfl rfl rfl rowB_rd (by omega)) (Lc09 rfl rfl (OpT_storeS1 (r:=1001) rfl Tryz.sizeOf5 rfl rfl rfl (show (bv (at0 b.2 n + y)).oneCell' = true from rfl) (by show _ < (bs b.2).length; rw [bs_length]; omega) rfl ?_)))))))
       refine Lt9 (P':=rowB 5 v75 (b.2.set n (at0 b.2 n + y))) (r:=1001) rfl (fun h hp=>rowB_mk hp (by rw [List.length_set]) (by rw [← bs_setI]; rfl)) ?_
       refine (N9 (X9 ?_))
       refine Q9 (Q9 ?_)
       obtain ⟨dd,hdd⟩:∃ dd:List UInt8,dd = b.2.set n (at0 b.2 n + y):=⟨_,rfl⟩
       refine Wt9 (P':=rowB 5 v75 dd) 1001 rfl (fun h hp=>by rw [hdd]; exact hp) ?_
       have hddl:dd.length≤1000000000:=by rw [hdd,List.length_set]; exact hbl
       refine W_draw (N:=8) (by kernel_rfl) rfl [(0,_),(401,_),(901,_)] ⟨rfl,rfl,rfl,trivial⟩ ?_
       refine (T9 0 rfl rfl (Pm9 rfl rfl) (T9 2 rfl rfl (Pm9 rfl rfl) (T9 3 rfl rfl (Pm9 rfl rfl) (T9 4 rfl rfl (Pi9 (r:=901) rfl Tryz.runUnderlying27 Tryz.sizeOf59 rfl rfl rfl (fun _ h=>rp9 h) (by omega)) (T9 5 rfl rfl (Pu_fieldAddrE (off:=0) rfl rfl (by kernel_rfl)) (T9 6 rfl rfl (Pz9 (r:=901) rfl Tryz.isAgg29 Tryz.sizeOf29 rfl rfl (fun _ h=>rp9 h) ((bs_length _).trans b.1.len) (by decide) (eb_key (k:=m) hb)) (Y9 [1] ?_)))))))
       refine Z9 rfl rfl (Oc9 1200 [0,401,700,701,901,1001] [] rfl Tryz.call26 rfl rfl rfl (by decide) (by decide) (refSum_spec v75 dd hddl _ (rs9 5 rfl rowB_rd)) (fun v88 Ps88 hR88=>?_)) ?_
       ·
        obtain ⟨rfl,rfl⟩:=hR88
        refine ⟨⟨rfl,rfl,rfl,trivial⟩,?_⟩
        refine (T9 7 rfl rfl (Pn9 rfl rfl rfl (run_idEq _ _ (sha_length _) b.1.len _ _)) (Ad9 (by kernel_rfl) (X9 ?_)))
        refine C9 rfl (fun hc94=>?_) (fun hc94=>?_)
        ·
         refine Q9 (R9 (G9 rfl rfl (N9 (X9 ?_))))
         refine W_ret (X_then_ret (X_block_ret (X_then_ret ?_)))
         exact Xq9 [] (Ps:=[]) (res1 Tryz.results10 rfl) rfl (by decide) ⟨rfl,rfl⟩
        ·
         have hns:sha dd≠b.1.key:=fun hc=>by rw [hc] at hc94; simp at hc94
         refine K9 (X9 ?_)
         refine R9 (M9 rfl rfl (M9 rfl rfl (M9 rfl rfl (L9 rfl (Pi9 (r:=901) rfl Tryz.runUnderlying27 Tryz.sizeOf59 rfl rfl rfl (fun _ h=>rp9 h) (by omega)) (L9 rfl (Pu_fieldAddrE (off:=32) rfl rfl (by kernel_rfl)) (Lc09 rfl rfl (OpT_storeS1 (r:=901) rfl Tryz.sizeOf36 rfl rfl rfl ho75 (by rw [ebC_len]; omega) (eb_setD (k:=m) hb v75 ho75 dd) ?_)))))))
         refine Lt9 (P':=rowP 59 35 v43 (es.set m (setD v75 ho75 dd b)).length (recC bvC ((es.set m (setD v75 ho75 dd b)).map (fun p:EB=>p.1)))) (r:=901) rfl (fun h hp=>row_nm hp (by rw [List.length_set]) rfl) ?_
         refine (N9 (X_block ?_))
         refine X_join [701,1001] 701 (datE (es.set m (setD v75 ho75 dd b))) rfl (by decide) (fun h hs=>datE_set hs) ?_
         refine X_ren 901 800 rfl ?_
         exact X_cut (v43,es.set m (setD v75 ho75 dd b),(idT Ta)) ⟨ho43,hid,by dsimp only; rw [List.length_set]; exact hel,fun p hp=>(List.mem_or_eq_of_mem_set hp).elim (hdl p) (fun h=>by rw [h]; exact hddl),spoil_turn huq hb rfl hns⟩ (a9 rfl) (a9 rfl)
       exact An9
      ·
       refine Q9 (R9 (L9 rfl (Pn9 rfl rfl rfl (run_eql _ _ _ _ _ _)) (G9 rfl rfl (N9 (X9 ?_)))))
       refine C9 rfl (fun hc100=>?_) (fun hc100=>?_)
       ·
        obtain ⟨b,hb⟩:∃ b,es[m]? = some b:=⟨_,List.getElem?_eq_getElem hml⟩
        have hbm:=List.mem_of_getElem? hb
        have hbl:=hdl b hbm
        have hb0:=sound_ne huq hsd hb
        refine R9 (M9 rfl rfl (M9 rfl rfl (M9 rfl rfl (L9 rfl (Pu_conv rfl rfl (conv_u8 _ Tryz.runUnderlying5 Tryz.runUnderlying3)) (L9 rfl (Pi9 (r:=901) rfl Tryz.runUnderlying27 Tryz.sizeOf59 rfl rfl rfl (fun _ h=>rp9 h) (by omega)) (L9 rfl (Pu_fieldAddrE (off:=33) rfl rfl (by kernel_rfl)) (Lc09 rfl rfl (OpT_storeS1 (r:=901) rfl Tryz.sizeOf3 rfl rfl rfl rfl (by rw [ebC_len]; omega) (eb_setS (k:=m) hb _) ?_))))))))
        refine Lt9 (P':=rowP 59 35 v43 (es.set m (setS ((y.toNat:Nat):Int) b)).length (recC bvC ((es.set m (setS ((y.toNat:Nat):Int) b)).map (fun p:EB=>p.1)))) (r:=901) rfl (fun h hp=>row_nm hp (by rw [List.length_set]) rfl) ?_
        refine (N9 (X_block ?_))
        refine X_turn (P':=datE (es.set m (setS ((y.toNat:Nat):Int) b))) 701 rfl (fun h hp=>datE_src hb hp) ?_
        refine X_ren 901 800 rfl ?_
        exact X_cut (v43,es.set m (setS ((y.toNat:Nat):Int) b),(idT Ta)) ⟨ho43,hid,by dsimp only; rw [List.length_set]; exact hel,fun p hp=>(List.mem_or_eq_of_mem_set hp).elim (hdl p) (fun h=>by rw [h]; exact hbl),spoil_src hb hy0⟩ (a9 rfl) (a9 rfl)
       ·
        refine Q9 (R9 (L9 rfl (Pn9 rfl rfl rfl (run_eql _ _ _ _ _ _)) (G9 rfl rfl (N9 (X9 ?_)))))
        refine W_true rfl ((decide_eq_true (by have h0:=of_decide_eq_false hc46; have h1:=of_decide_eq_false hc56; have h2:=of_decide_eq_false hc67; have h3:=of_decide_eq_false hc100; omega))) ?_
        refine R9 (L9 rfl (F9 1 rfl rfl) (L9 rfl (Pu_idxA rfl Tryz.runUnderlying29 Tryz.sizeOf5 rfl rfl (by decide)) (L9 rfl (Pb9 (r:=401) rfl Tryz.isAgg5 rfl rfl (top_get hid w0)) (M9 rfl rfl (L9 rfl (Pn9 rfl rfl rfl (run_addU8 (at0 (idT Ta) 0) y _ _ _)) (L9 rfl (F9 1 rfl rfl) (L9 rfl (Pu_idxA rfl Tryz.runUnderlying29 Tryz.sizeOf5 rfl rfl (by decide)) (Lc09 rfl rfl (OpT_storeB1 (r:=401) rfl Tryz.sizeOf5 rfl rfl rfl (show (bv (at0 (idT Ta) 0 + y)).oneCell' = true from rfl) (by rw [treeC_length hid]; decide) (top_set hid w0 _) ?_)))))))))
        refine (N9 (X_block ?_))
        refine X_ren 901 800 rfl ?_
        exact X_cut (v43,es,((idT Ta).set 0 (at0 (idT Ta) 0 + y))) ⟨ho43,(List.length_set).trans hid,hel,hdl,spoil_top hsd (top_ne hid hy0)⟩ (a9 rfl) (a9 rfl)
   ·
    obtain ⟨hz1,hz2,hz3,hz4,hz5⟩:=hz
    refine Q9 (R9 (M9 rfl rfl (L9 rfl (F9 0 rfl rfl) (Lc09 rfl rfl (OpT_storeB1 (r:=401) rfl Tryz.sizeOf27 rfl rfl rfl hz1 (by rw [treeC_length hz2]; decide) (show _ = treeC z.1 z.2.2 from rfl) ?_)))))
    refine (N9 (X9 ?_))
    refine Q9 (R9 (L9 rfl (Px9 (r:=401) rfl Tryz.isAgg31 Tryz.sizeOf31 rfl rfl (treeC_length hz2) (load_all (treeC_length hz2))) (Lc9 rfl rfl (by decide) (Oc9 1000 [0,401,701,800] [] rfl Tryz.call32 rfl rfl rfl (by decide) (by decide) (sound_spec z.2.1 z.1 z.2.2 hz2 hz3 hz4 _ (rs9 3 rfl (fun h hp=>by have h2:=rp9 hp; rw [List.length_map]; exact h2)) (ds9 2 rfl (fun _ h=>h)) (ts9 0 rfl hT)) (fun v120 Ps120 hR120=>?_)))))
    obtain ⟨q120,rfl,hq120,rfl⟩:=hR120
    obtain rfl:q120 = false:=by cases q120 with | false=>rfl | true=>exact absurd (hq120.1 rfl) hz5
    refine (L9 rfl (Pu_un rfl rfl (run_not _)) (G9 rfl rfl (N9 (X9 ?_))))
    refine W_ret ?_
    exact Xq9 [] (Ps:=[]) (res1 Tryz.results10 rfl) rfl (by decide) ⟨rfl,rfl⟩
end Go.Proofs.YthkdkmaacjpneaaGreatDoor
namespace Go.Proofs.YthkdkmaacjpneaaGreatDoor
open Go.RowKit Go.ChangeShapes Go.WideShapes Go.Deep

theorem wf_i64 {n:Int} (h:(Lit.int .i64 n).wf = true):-9223372036854775808≤n∧n≤9223372036854775807:=by
  simp only [Lit.wf,Bool.and_eq_true,decide_eq_true_eq] at h
  have h1:IntKind.min .i64 = -9223372036854775808:=by decide
  have h2:IntKind.max .i64 = 9223372036854775807:=by decide
  rw [h1,h2] at h
  exact h
theorem wf_u8 {n:Int} (h:(Lit.int .u8 n).wf = true):0≤n∧n≤255:=by
  simp only [Lit.wf,Bool.and_eq_true,decide_eq_true_eq] at h
  have h1:IntKind.min .u8 = 0:=by decide
  have h2:IntKind.max .u8 = 255:=by decide
  rw [h1,h2] at h
  exact h

def RdI (w:World) (v:Value) (zs:List Int):Prop:=Rd w 1 v zs.length (zs.map (Value.int .i64))
def I64 (zs:List Int):Prop:=∀ z ∈ zs,-9223372036854775808≤z∧z≤9223372036854775807
theorem ints_of (vs:List Value) (h:∀ u ∈ vs,∃ n,u = .int .i64 n∧(Lit.int .i64 n).wf = true):∃ zs:List Int,vs = zs.map (Value.int .i64)∧I64 zs:=by
  induction vs with
  | nil=>exact ⟨[],rfl,by simp [I64]⟩
  | cons u vs ih =>
    obtain ⟨zs,rfl,hz⟩:=ih fun x hx=>h x (List.mem_cons_of_mem _ hx)
    obtain ⟨n,rfl,hw⟩:=h u (List.mem_cons_self ..)
    refine ⟨n :: zs,rfl,fun z hm=>?_⟩
    rcases List.mem_cons.1 hm with rfl | hm
    · exact wf_i64 hw
    · exact hz z hm
theorem pairs_of {α β:Type} {R:α→β→Prop} (vs:List α) (h:∀ u ∈ vs,∃ y,R u y):∃ ps:List (α × β),vs = ps.map (·.1)∧∀ p ∈ ps,R p.1 p.2:=by
  induction vs with
  | nil=>exact ⟨[],rfl,by simp⟩
  | cons u vs ih =>
    obtain ⟨ps,rfl,hp⟩:=ih fun x hx=>h x (List.mem_cons_of_mem _ hx)
    obtain ⟨y,hy⟩:=h u (List.mem_cons_self ..)
    refine ⟨(u,y) :: ps,rfl,fun p hm=>?_⟩
    rcases List.mem_cons.1 hm with rfl | hm
    · exact hy
    · exact hp p hm

section
variable {H:Type} {enc:TypeId × Value→H} {P:Program} {w:World} {base:Nat} {spare:Nat→Bool} {held:Bool}

theorem slice1_of {t e:TypeId} {fuel:Nat} {v:Value} {x:DataW H × List MemPlace} (ht:P.underlying t = some (.slice e)) (hc:P.cellsOf e = 1) (h:DataW.trod enc P w base spare held fuel t [v] = some x) :
    ∃ vs:List Value,Rd w 1 v vs.length vs∧vs.length≤maxLen∧∀ u ∈ vs,∃ n y,DataW.trod enc P w base spare held n e [u] = some y:=by
  rcases open_slice1 ht hc h with ⟨h1,_⟩ | ⟨a,len,cap,m,n,V,D,Pl,h1,hb,hl,hm,hmm,hx,hV⟩
  · injection h1 with h1; subst h1
    exact ⟨[],⟨rfl,none,0,rfl,Nat.le_refl _,fun _=>rfl,fun ad h=>by cases h⟩,by unfold maxLen; simp,by simp⟩
  · injection h1 with h1; subst h1
    have hle:len≤m:=by rw [hmm]; split <;> omega
    refine ⟨(List.range len).map V,⟨by simp,some a,cap,by simp,by simpa using hl,(fun h=>by cases h),fun ad had=>?_⟩,by simp; omega,fun u hu=>?_⟩
    · injection had with had; subst had
      refine ⟨fun hp=>?_,fun j u hu=>?_⟩
      · have:=(hV 0 (by simp at hp; omega)).1
        have:=World.block_lt_of_cell? _ _ this
        rwa [block_of_add] at this
      · simp only [List.getElem?_map] at hu
        have hj:j < len:=by
          rcases Nat.lt_or_ge j len with h | h
          · exact h
          · simp [List.getElem?_eq_none (show (List.range len).length≤j by simpa using h)] at hu
        simp [List.getElem?_range hj] at hu
        subst hu
        exact (hV j (by omega)).1
    · simp only [List.mem_map,List.mem_range] at hu
      obtain ⟨i,hi,rfl⟩:=hu
      exact ⟨n,_,(hV i (by omega)).2⟩

theorem rdI_of {t e:TypeId} {fuel:Nat} {v:Value} {x:DataW H × List MemPlace} (ht:P.underlying t = some (.slice e)) (he:P.underlying e = some (.int .i64)) (hc:P.cellsOf e = 1) (h:DataW.trod enc P w base spare held fuel t [v] = some x) :
    ∃ l,RdI w v l∧I64 l∧l.length≤maxLen:=by
  obtain ⟨vs,hr,hm,hu⟩:=slice1_of ht hc h
  obtain ⟨l,rfl,hl⟩:=ints_of vs fun u hmem=>by
    obtain ⟨n,y,hy⟩:=hu u hmem
    obtain ⟨k,h1,_,h3⟩:=DataW.trod_int he hy
    injection h1 with h1
    exact ⟨k,h1,h3⟩
  rw [List.length_map] at hr hm
  exact ⟨l,hr,hl,hm⟩
theorem rows_of {t e:TypeId} {fs:Array Field} {fuel:Nat} {v:Value} {x:DataW H × List MemPlace} (ht:P.underlying t = some (.slice e)) (he:P.underlying e = some (.struct fs))
    (hone:oneCellFields P fs = true) (hS:0 < fs.size) (hC:P.cellsOf e = fs.size) (h:DataW.trod enc P w base spare held fuel t [v] = some x) :
    ∃ rs:List (List Value),Rd w fs.size v rs.length rs.flatten∧rs.length≤maxLen∧∀ r ∈ rs,r.length = fs.size ∧
      ∀ (j:Nat) (f:Field),fs[j]? = some f→∃ u n y,r[j]? = some u∧DataW.trod enc P w base spare held n f.type [u] = some y:=by
  rcases open_slice ht h with ⟨h1,_⟩ | ⟨a,len,cap,m,n,D,Pl,h1,hb,hl,hm,hmm,hx,hi⟩
  · injection h1 with h1; subst h1
    exact ⟨[],⟨by simp,none,0,rfl,Nat.le_refl _,fun _=>rfl,fun ad h=>by cases h⟩,by unfold maxLen; simp,by simp⟩
  · injection h1 with h1; subst h1
    have hle:len≤m:=by rw [hmm]; split <;> omega
    rw [hC] at hi
    obtain ⟨V,hV⟩:=choose_lt (α:=List Value) (p:=fun i cs'=>w.cells? base (a.add (i * fs.size)) fs.size = some cs'∧DataW.trod enc P w base spare held n e cs' = some (D i,Pl i)) (n:=m) (fun i him=>hi i him)
    have hfl:∀ i,i < len→(V i).length = fs.size:=fun i h=>(World.cells?_some (hV i (by omega)).1).2.1
    have hlen:∀ k,k≤len→((List.range k).map V).flatten.length = k * fs.size:=by
      intro k hk
      induction k with
      | zero=>simp
      | succ k ih =>
        rw [List.range_succ,List.map_append,List.flatten_append,List.length_append,ih (by omega)]
        simp [hfl k (by omega),Nat.add_mul]
    have hget:∀ k,k≤len→∀ (j:Nat) (u:Value),((List.range k).map V).flatten[j]? = some u→w.cell? (a.add j) = some u:=by
      intro k hk
      induction k with
      | zero=>intro j u hu; simp at hu
      | succ k ih =>
        intro j u hu
        rw [List.range_succ,List.map_append,List.flatten_append,List.getElem?_append,hlen k (by omega)] at hu
        split at hu
        · exact ih (by omega) j u hu
        · simp only [List.map_cons,List.map_nil,List.flatten_cons,List.flatten_nil,List.append_nil] at hu
          have hj:j - k * fs.size < fs.size:=by
            have:=(List.getElem?_eq_some_iff.1 hu).1
            rw [hfl k (by omega)] at this
            exact this
          have h2:=(World.cells?_some (hV k (by omega)).1).2.2 (j - k * fs.size) hj
          rw [add_of_add,show k * fs.size + (j - k * fs.size) = j by omega] at h2
          rw [h2,hu]
    refine ⟨(List.range len).map V,⟨by rw [hlen len (Nat.le_refl _)]; simp,some a,cap,by simp,by simpa using hl,(fun h=>by cases h),fun ad had=>?_⟩,by simp; omega,fun r hr=>?_⟩
    · injection had with had; subst had
      refine ⟨fun hp=>?_,hget len (Nat.le_refl _)⟩
      have hp':0 < len:=by simpa using hp
      have h0:=(hV 0 (by omega)).1
      have h1:=(World.cells?_some h0).2.2 0 hS
      rw [List.getElem?_eq_getElem (by rw [hfl 0 hp']; exact hS)] at h1
      have:=World.block_lt_of_cell? _ _ h1
      rwa [block_of_add,block_of_add] at this
    · simp only [List.mem_map,List.mem_range] at hr
      obtain ⟨i,hil,rfl⟩:=hr
      obtain ⟨hc,htd⟩:=hV i (by omega)
      obtain ⟨ys,n',hn',hy,hlen',hyl,hf⟩:=DataW.trod_struct he htd
      refine ⟨hfl i hil,fun j f hj=>?_⟩
      obtain ⟨ho,hk⟩:=hone_of hone j f hj
      have hjl:j < fs.size:=(Array.getElem?_eq_some_iff.1 hj).1
      have h1:=hf j f hj
      rw [ho,hk] at h1
      have hvl:=hfl i hil
      have hone':((V i).drop j).take 1 = [(V i)[j]'(by omega)]:=by
        rw [List.drop_eq_getElem_cons (by omega)]
        rfl
      rw [hone',List.getElem?_eq_getElem (by omega)] at h1
      exact ⟨_,n',_,List.getElem?_eq_getElem (by omega),h1⟩
end

section
variable {H:Type} {enc:TypeId × Value→H} {P:Program} {w:World} {base b0:Nat} {spare:Nat→Bool} {held:Bool} {r:Reach} {t:TypeId} {v:Value} {d:DataW H} {ps:List MemPlace}
theorem op_int (ht:P.underlying t = some (.int .i64)) (hv:Value.okWide P w r b0 t v) (h:DataW.Trod enc P w base spare held t v d ps):∃ n,v = .int .i64 n∧-9223372036854775808≤n∧n≤9223372036854775807:=by
  obtain ⟨n,rfl,_,_,hw⟩:=open_int ht hv h
  exact ⟨n,rfl,(wf_i64 hw).1,(wf_i64 hw).2⟩
theorem op_slice {e:TypeId} (ht:P.underlying t = some (.slice e)) (hv:Value.okWide P w r b0 t v) (h:DataW.Trod enc P w base spare held t v d ps):∃ fuel,DataW.trod enc P w base spare held fuel t [v] = some (d,ps):=by
  obtain ⟨a,len,cap,rfl⟩:=okWide_slice ht hv
  obtain ⟨fuel,hf⟩:=h
  exact ⟨fuel,by simpa [Value.cells] using hf⟩
end
end Go.Proofs.YthkdkmaacjpneaaGreatDoor
namespace Go.Proofs.YthkdkmaacjpneaaGreatDoor
open Go.RowKit Go.ChangeShapes Go.WideShapes Go.Deep
section
variable {H:Type} {enc:TypeId × Value→H} {P:Program} {w:World} {base:Nat} {spare:Nat→Bool} {held:Bool}
def Tr (enc:TypeId × Value→H) (P:Program) (w:World) (base:Nat) (spare:Nat→Bool) (held:Bool) (t:TypeId) (cs:List Value):Prop:=∃ fuel x,DataW.trod enc P w base spare held fuel t cs = some x
theorem Tr.int {t:TypeId} {cs:List Value} (ht:P.underlying t = some (.int .i64)) (h:Tr enc P w base spare held t cs):∃ n,cs = [.int .i64 n]∧-9223372036854775808≤n∧n≤9223372036854775807:=by
  obtain ⟨f,x,h⟩:=h
  obtain ⟨n,rfl,_,hw⟩:=DataW.trod_int ht h
  exact ⟨n,rfl,wf_i64 hw⟩
theorem Tr.bool {t:TypeId} {cs:List Value} (ht:P.underlying t = some .bool) (h:Tr enc P w base spare held t cs):∃ b,cs = [Value.bool b]:=by
  obtain ⟨f,x,h⟩:=h
  obtain ⟨b,rfl,_⟩:=DataW.trod_bool ht h
  exact ⟨b,rfl⟩
theorem Tr.u8 {t:TypeId} {cs:List Value} (ht:P.underlying t = some (.int .u8)) (h:Tr enc P w base spare held t cs):∃ x,cs = [bv x]:=by
  obtain ⟨f,x,h⟩:=h
  obtain ⟨n,rfl,_,hw⟩:=DataW.trod_int ht h
  have:=wf_u8 hw
  refine ⟨UInt8.ofNat n.toNat,?_⟩
  simp only [bv]
  congr 2
  rw [UInt8.toNat_ofNat']
  omega
theorem Tr.struct {t:TypeId} {cs:List Value} {fs:Array Field} (ht:P.underlying t = some (.struct fs)) (h:Tr enc P w base spare held t cs):cs.length = P.cellsOf t∧∀ (i:Nat) (f:Field),fs[i]? = some f→Tr enc P w base spare held f.type ((cs.drop f.offset).take (P.cellsOf f.type)):=by
  obtain ⟨f,x,h⟩:=h
  obtain ⟨xs,n,_,_,hl,hx,hf⟩:=DataW.trod_struct ht h
  refine ⟨hl,fun i f hi=>?_⟩
  have h1:=hf i f hi
  have hlt:i < xs.length:=by rw [hx]; exact (Array.getElem?_eq_some_iff.1 hi).1
  rw [List.getElem?_eq_getElem hlt] at h1
  exact ⟨n,_,h1⟩
theorem Tr.array {t e:TypeId} {n:Nat} {cs:List Value} (ht:P.underlying t = some (.array n e)) (h:Tr enc P w base spare held t cs):cs.length = P.cellsOf t∧∀ i,i < n→Tr enc P w base spare held e ((cs.drop (i * P.cellsOf e)).take (P.cellsOf e)):=by
  obtain ⟨f,x,h⟩:=h
  obtain ⟨xs,m,_,_,hl,hx,hf⟩:=DataW.trod_array ht h
  refine ⟨hl,fun i hi=>?_⟩
  have h1:=hf i hi
  rw [List.getElem?_eq_getElem (by omega)] at h1
  exact ⟨m,_,h1⟩
theorem Tr.bytes {t e:TypeId} {n:Nat} {cs:List Value} (ht:P.underlying t = some (.array n e)) (he:P.underlying e = some (.int .u8)) (hc:P.cellsOf e = 1) (hn:P.cellsOf t = n) (h:Tr enc P w base spare held t cs):∃ l,cs = bs l∧l.length = n:=by
  obtain ⟨hl,hf⟩:=h.array ht
  rw [hn] at hl
  rw [hc] at hf
  have key:∀ (cs:List Value),(∀ i,i < cs.length→Tr enc P w base spare held e ((cs.drop (i * 1)).take 1))→∃ l,cs = bs l:=by
    intro cs
    induction cs with
    | nil=>intro _; exact ⟨[],rfl⟩
    | cons u cs ih =>
      intro h
      obtain ⟨l,rfl⟩:=ih (fun i hi=>by
        have:=h (i + 1) (by simpa using hi)
        simpa using this)
      obtain ⟨x,hx⟩:=(h 0 (by simp)).u8 he
      simp at hx
      exact ⟨x :: l,by simp [bs,hx]⟩
  obtain ⟨l,rfl⟩:=key cs (fun i hi=>hf i (by omega))
  exact ⟨l,rfl,by rw [← hl,bs_length]⟩
end
section
variable {H:Type} {enc:TypeId × Value→H} {P:Program} {w:World} {base b0:Nat} {spare:Nat→Bool} {held:Bool} {r:Reach} {t:TypeId} {v:Value} {d:DataW H} {ps:List MemPlace}
end
end Go.Proofs.YthkdkmaacjpneaaGreatDoor
namespace Go.Proofs.YthkdkmaacjpneaaGreatDoor
open Go.RowKit Go.ChangeShapes Go.WideShapes Go.Deep
section
variable {H:Type} {enc:TypeId × Value→H} {P:Program} {w:World} {base:Nat} {spare:Nat→Bool} {held:Bool}
end
end Go.Proofs.YthkdkmaacjpneaaGreatDoor
namespace Go.Proofs.YthkdkmaacjpneaaGreatDoor
open Go.RowKit Go.ChangeShapes Go.WideShapes Go.Deep
section
variable {H:Type} {enc:TypeId × Value→H} {P:Program} {w:World} {base b0:Nat} {spare:Nat→Bool} {held:Bool} {r:Reach} {t:TypeId} {v:Value} {d:DataW H} {ps:List MemPlace}
end
end Go.Proofs.YthkdkmaacjpneaaGreatDoor
namespace Go.Proofs.YthkdkmaacjpneaaGreatDoor
open Go.RowKit Go.ChangeShapes Go.WideShapes Go.Deep
section
variable {H:Type} {enc:TypeId × Value→H} {w:World} {base:Nat} {spare:Nat→Bool} {held:Bool} {v:Value}
theorem rdFiles_of {fuel:Nat} {x:DataW H × List MemPlace} (h:DataW.trod enc Tryz.prog w base spare held fuel 22 [v] = some x) :
    ∃ fs:List FV,(Rd w 3 v fs.length (recC fileC fs)∧∀ f ∈ fs,Rd w 1 f.2.1 f.1.length (is f.1))∧fs.length≤maxLen:=by
  obtain ⟨rs,hr,hm,hrs⟩:=rows_of Tryz.underlying22 Tryz.underlying97 (by kernel_rfl) (by decide) (by kernel_rfl) h
  obtain ⟨cs,hcs,hp⟩:=pairs_of (R:=fun (r:List Value) (c:FV)=>r = fileC c∧Rd w 1 c.2.1 c.1.length (is c.1)) rs fun r hrm=>by
    obtain ⟨hl,hf⟩:=hrs r hrm
    obtain ⟨u0,n0,y0,e0,t0⟩:=hf 0 _ rfl
    obtain ⟨u1,n1,y1,e1,t1⟩:=hf 1 _ rfl
    obtain ⟨u2,n2,y2,e2,t2⟩:=hf 2 _ rfl
    obtain ⟨l,hl2,_⟩:=rdI_of Tryz.underlying61 Tryz.underlying3 (by kernel_rfl) t0
    obtain ⟨a,ha,_,wa⟩:=DataW.trod_int Tryz.underlying3 t1
    obtain ⟨b,hb⟩:=Tr.u8 Tryz.underlying5 (cs:=[u2]) ⟨n2,y2,t2⟩
    injection ha with ha; injection hb with hb
    subst ha; subst hb
    refine ⟨⟨l,u0,a,b⟩,?_,hl2⟩
    match r,hl with
    | [r0,r1,r2],_ =>
      simp at e0 e1 e2
      subst e0; subst e1; subst e2
      rfl
  subst hcs
  rw [List.length_map] at hr hm
  refine ⟨cs.map (·.2),⟨?_,fun c hc=>?_⟩,by simpa using hm⟩
  · have he:recC fileC (cs.map (·.2)) = (cs.map (·.1)).flatten:=by
      unfold recC
      rw [List.map_map]
      congr 1
      refine List.map_congr_left fun p hpm=>?_
      exact (hp p hpm).1.symm
    rw [he,List.length_map]
    exact hr
  · simp only [List.mem_map] at hc
    obtain ⟨p,hpm,rfl⟩:=hc
    exact (hp p hpm).2
end
end Go.Proofs.YthkdkmaacjpneaaGreatDoor
namespace Go.Proofs.YthkdkmaacjpneaaGreatDoor
open Go.ChangeShapes Go.WideShapes Go.ChangeAt Go.RowKit
variable {H:Type} {enc:TypeId × Value→H} {P:Program} {w:World} {base b0:Nat} {spare:Nat→Bool} {held:Bool} {r:Reach} {t:TypeId} {v:Value} {d:DataW H} {ps:List MemPlace}
theorem op_u8 (ht:P.underlying t = some (.int .u8)) (hv:Value.okWide P w r b0 t v) (h:DataW.Trod enc P w base spare held t v d ps):∃ y:UInt8,v = bv y:=by
  obtain ⟨n,rfl,_,_,hw⟩:=open_int ht hv h
  have:=wf_u8 hw
  refine ⟨UInt8.ofNat n.toNat,?_⟩
  simp only [bv]
  congr 1
  rw [UInt8.toNat_ofNat']
  omega
open Go.RowKit
theorem treeSound_any (W:World) (hT:∀ h,orig W h→tabsP h) (v0:Value) (l0:List FV) (hr0:Rd W 3 v0 l0.length (recC fileC l0)∧∀ f ∈ l0,Rd W 1 f.2.1 f.1.length (is f.1)) (hl0:l0.length≤maxLen)
    (a1:Int) (lo1:-9223372036854775808≤a1) (hi1:a1≤9223372036854775807) (a2:Int) (lo2:-9223372036854775808≤a2) (hi2:a2≤9223372036854775807) (y:UInt8) :
    Calls Tryz.prog 10 #[v0,.int .i64 a1,.int .i64 a2,bv y] W fun e W'=>e = .returned (.bool true)∧Chg [] W W' :=
  calls_law ((treeSound_spec v0 l0 a1 a2 y (orig W) (fun h hp=>Rd.orig hr0.1 h hp) (fun h hp f hf=>Rd.orig (hr0.2 f hf) h hp) hT).imp fun v Ps h=>h.1)
end Go.Proofs.YthkdkmaacjpneaaGreatDoor
namespace Go.Proofs.YthkdkmaacjpneaaGreatDoor
open Go.RowKit Go.Lib
set_option maxRecDepth 100000
theorem first_eq:Go.Pinned.utf8First = firstData:=by kernel_rfl
theorem accept_eq:(Rows.laid_unicode_utf8_acceptRanges:DataW Unit) = acceptData:=by kernel_rfl
def laidL:List (String × DataW Unit):=[("unicode/utf8.acceptRanges",Rows.laid_unicode_utf8_acceptRanges),("unicode/utf8.first",Rows.laid_unicode_utf8_first)]
theorem tabs_of_laid {W:World} (h:laidMetH Tryz.prog laidL W) (hsh:W.ShapedOpen Tryz.prog):∀ h,orig W h→tabsP h:=by
  rw [MakeChecks.laidMetH_plain _ _ _ (by kernel_rfl)] at h
  have h3:VarReads Tryz.prog W "unicode/utf8.first" firstData:=by
    rw [← first_eq]
    exact laidMet.reads h (List.mem_cons_of_mem _ List.mem_cons_self)
  have h4:VarReads Tryz.prog W "unicode/utf8.acceptRanges" acceptData:=by
    rw [← accept_eq]
    exact laidMet.reads h List.mem_cons_self
  refine orig_tabs (utf8Tabs_of_reads lays260 laysU h3 h4) ?_
  exact cell_of_shapedOpen_int (zero:=#[.int .i64 0]) (t:=3) hsh (of_decide_eq_true (by kernel_rfl)) (by kernel_rfl) rfl (by kernel_rfl) (by kernel_rfl) Tryz.underlying3
def lay (cs:List Value):Obj→Obj
  | .cells _ t frozen=>.cells cs.toArray t frozen
  | o=>o
def firstCells:List Value:=(List.range 256).map fun c=>Value.int .u8 (firstT c:Int)
def acceptCells:List Value:=((List.range 16).map fun i=>[Value.int .u8 (accLo i:Int),Value.int .u8 (accHi i:Int)]).flatten
noncomputable def laidWorld (os:Os):World :=
  { World.holding Tryz.prog os ⟨#[],#[],[]⟩ with heap:=((World.holding Tryz.prog os ⟨#[],#[],[]⟩).heap.modify 1 (lay firstCells)).modify 2 (lay acceptCells) }
theorem laid_met (os:Os) (args:Array Value):laidMet Tryz.prog laidL ((laidWorld os).forCall (fun _ _=>0) ⟨#[],args,[]⟩).memory :=
  laidMet_of_run' 8 (by kernel_rfl) (by kernel_rfl)
end Go.Proofs.YthkdkmaacjpneaaGreatDoor
