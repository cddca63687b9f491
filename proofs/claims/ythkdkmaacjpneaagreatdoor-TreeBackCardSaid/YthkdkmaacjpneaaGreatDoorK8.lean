/- Texts of this proof, one behind the other: TreeAC, TreeSp, Open, Open2, Open3, Open4, OpenF, TreeSt, LaidN. -/
import Derived.Test.YthkdkmaacjpneaaGreatDoorK7
import Derived.Test.YthkdkmaacjpneaaGreatDoorK5
import Derived.Test.YthkdkmaacjpneaaGreatDoorK3
import Derived.Test.YthkdkmaacjpneaaGreatDoorK1
import Derived.ProofKit
import Derived.Deep.Slices
import Derived.Deep.Fields
import Derived.ChangeOld
import Derived.OpenShut
import Derived.SizedLaws
import Derived.ChangeMaps5
import Derived.Test.YthkdkmaacjpneaaGreatDoorRows
import Derived.Lib.LaidU8
import Derived.Shelf.Vars
import Derived.MakeChecks
set_option linter.unusedVariables false
set_option linter.unusedSimpArgs false
set_option linter.unusedSectionVars false
namespace Go.Proofs.YthkdkmaacjpneaaGreatDoor
open Go.RowKit
set_option maxRecDepth 8000
theorem row_its {e:TypeId} {v:Value} {n:Nat} {ys:List Value} {xs zs:List F3} {h:Hlt} (hp:rowP e 2 v n (ys++recC itC zs) h) (hn:n=xs.length + zs.length) (hy:ys=recC itC xs):rowR itC 2 e v (xs++zs) h:=by
  subst hn; subst hy
  unfold rowR
  rw [List.length_append,recC_append]
  exact hp
theorem it_get {xs:List F3} {k:Nat} (hk:k < xs.length):xs.getD k it0 ∈ xs:=getD_mem' hk
theorem its_ones {xs:List F3} (h:∀ x ∈ xs,x.2.1.oneCell'=true):∀ u ∈ recC itC xs,u.oneCell'=true:=by
  intro u hu
  unfold recC at hu
  obtain ⟨l,hl,hu⟩:=List.mem_flatten.1 hu
  obtain ⟨x,hx,rfl⟩:=List.mem_map.1 hl
  exact itC_one (h x hx) u hu
theorem itP_rd {v:Value} {xs:List F3} {h:Hlt} (hp:itemsP v xs h):rdIt v xs h:=starL_le hp (φ:=rdIt v xs) 0 rfl fun h' h1 h2=>rdP_le h2 (rowR_rd _ h1)
theorem itP_dat {v:Value} {xs:List F3} {h:Hlt} (hp:itemsP v xs h):datI xs h:=fun q hq=>starL_le hp (φ:=rdB q.2.1 q.2.2) 1 rfl fun h' h1 h2=>rdP_le h2 (h1 q hq)
theorem datFV_star {Js:List HP} {P:HP} {fs:List FV} (k:Nat) (hk:Js[k]?=some P) (hp:∀ h,P h→datFV fs h):∀ h,starL Js h→datFV fs h:=fun h hs f hf=>rs9 k hk (fun h' hh=>hp h' hh f hf) h hs
theorem dat_sub {xs ys:List F3} {h:Hlt} (hp:datI xs h) (hs:∀ q ∈ ys,q ∈ xs):datI ys h:=fun q hq=>hp q (hs q hq)
theorem short_big {xs:List F3} (h:Short3 xs):∀ x ∈ xs,x.1.length≤900000∧x.2.2.length≤100000000000:=fun x hx=>⟨by have:=(h x hx).1; omega,by have:=(h x hx).2.1; omega⟩
theorem good_next {ins xs:List F3} {i:Nat} (hi:i < ins.length) (hx:xs.length < 20) (hm:∀ q ∈ xs,q ∈ ins) (hs:Short3 ins) (v:Value) (F:HP) (hF:∀ h,F h→rdIt v (xs++[ins.getD i it0]) h) (hD:∀ h,F h→datI ins h):CallsS Tryz.prog 21 #[v] F [] (fun r Ps=>∃ (v':Value) (id:List UInt8) (met:Bool) (l:List TB),r = .tuple #[.agg (refC v' id met).toArray,.int .i64 (buildE (xs++[ins.getD i it0]):Int)]∧Ps=[treeP v' l]∧id.length=32∧v'.oneCell'=true∧(buildE (xs++[ins.getD i it0])=0→(l,met)=putsT ([],false) (dirI 5 (partsN (xs++[ins.getD i it0]))).2∧id=(dirI 5 (partsN (xs++[ins.getD i it0]))).1)∧(buildE (xs++[ins.getD i it0])≠0→l=[]∧met=false)) :=
  refBuild_spec v (xs++[ins.getD i it0]) (by rw [List.length_append,List.length_singleton]; omega) (short_big (fun q hq=>(List.mem_append.1 hq).elim (fun h=>hs q (hm q h)) (fun h=>by rw [List.mem_singleton.1 h]; exact hs _ (it_get hi)))) F hF
    (fun h hp=>dat_sub (hD h hp) (fun q hq=>(List.mem_append.1 hq).elim (hm q) (fun h2=>by rw [List.mem_singleton.1 h2]; exact it_get hi)))
def unT (t:T2):F3:=(t.1,.slice none 0 0,t.2)
def buildC (l:List T2):Nat:=buildE (l.map unT)
theorem buildE_tag (xs:List F3):buildE xs=buildC (xs.map tagF):=by
  have e:(xs.map tagF).map unT=xs.map (fun x=>unT (tagF x)):=List.map_map
  have h1:firstW (xs.map (fun x=>unT (tagF x)))=firstW xs:=by
    induction xs with
    | nil=>rfl
    | cons x r ih=>rw [List.map_cons,firstW,firstW,ih List.map_map]; rfl
  have h2:(xs.map (fun x=>unT (tagF x))).map pathOf=xs.map pathOf:=by rw [List.map_map]; rfl
  unfold buildC buildE
  rw [e,h1,h2,List.length_map]
def goodC (l:List T2):Nat→List T2
  | 0=>[]
  | i + 1=>if (goodC l i).length < 20∧buildC (goodC l i++[l.getD i ([],[])])=0 then goodC l i++[l.getD i ([],[])] else goodC l i
theorem goodC_stay (l:List T2) {i:Nat} (h:20≤(goodC l i).length):∀ k,goodC l (i + k)=goodC l i
  | 0=>rfl
  | k + 1=>by
    have ih:=goodC_stay l h k
    rw [← Nat.add_assoc,goodC,ih,if_neg (by omega)]
def goodF (fs:List FV):List T2:=goodC (itemsC fs (min fs.length 22)) (itemsC fs (min fs.length 22)).length
theorem tag_getD {xs:List F3} {i:Nat} (h:i < xs.length):(xs.map tagF).getD i ([],[])=tagF (xs.getD i it0):=by
  rw [List.getD_eq_getElem?_getD,List.getElem?_map,List.getD_eq_getElem?_getD,List.getElem?_eq_getElem h]
  rfl
theorem good_in {xs:List F3} {l:List T2} {x:F3} {i:Nat} (hx:xs.map tagF=goodC l i) (hl:xs.length < 20) (hi:l.getD i ([],[])=tagF x):(buildE (xs++[x])=0→(xs++[x]).map tagF=goodC l (i + 1))∧(¬ buildE (xs++[x])=0→xs.map tagF=goodC l (i + 1)):=by
  have h1:(goodC l i).length < 20:=by rw [← hx,List.length_map]; exact hl
  have h2:buildC (goodC l i++[l.getD i ([],[])])=buildE (xs++[x]):=by rw [buildE_tag,List.map_append,← hx,hi]; rfl
  refine ⟨fun h=>?_,fun h=>?_⟩
  · rw [goodC,if_pos ⟨h1,by rw [h2]; exact h⟩,List.map_append,hx,hi]; rfl
  · rw [goodC,if_neg (fun hc=>h (by rw [← h2]; exact hc.2)),hx]
theorem good_end {fs:List FV} {ins xs:List F3} {i:Nat} (hi:ins.map tagF=itemsC fs (min fs.length 22)) (hx:xs.map tagF=goodC (ins.map tagF) i) (hl:i≤ins.length) (h:¬ i < ins.length∨¬ xs.length < 20):xs.map tagF=goodF fs:=by
  have hn:(itemsC fs (min fs.length 22)).length=ins.length:=by rw [← hi,List.length_map]
  unfold goodF
  rw [← hi,List.length_map]
  rcases h with h | h
  · rw [hx,show i=ins.length by omega]
  · have:=goodC_stay (ins.map tagF) (i:=i) (by rw [← hx,List.length_map]; omega) (ins.length - i)
    rw [show i + (ins.length - i)=ins.length by omega] at this
    rw [this,hx]
set_option maxHeartbeats 4000000 in
theorem good_spec9 (v:Value) (fs:List FV) (F:HP) (hF:∀ h,F h→rdFV v fs h) (hN:∀ h,F h→datFV fs h):CallsS Tryz.prog 14 #[v] F [] (fun r Ps=>∃ xs:List F3,buildE xs=0∧xs.length≤20∧Short3 xs∧xs.map tagF=goodF fs∧Ps=[itemsP r xs]):=by
 refine callsS_enter Tryz.func14 rfl Tryz.ntmps14 (by simp) (fun E=>?_)
 refine Q9 (R9 (G9 rfl rfl (N9 (X9 (Q9 (R9 (M9 rfl rfl (Lc9 rfl rfl (by decide) (Oc9 200 [0] [] rfl Tryz.call20 rfl rfl rfl (by decide) (by decide) (items_spec9 v fs _ (rs9 0 rfl hF) (datFV_star 0 rfl hN)) (fun v9 Ps9 hR9=>?_))))))))))
 obtain ⟨ins,hil,his,hit9,rfl⟩:=hR9
 skip
 refine (G9 rfl rfl (N9 (X9 ?_)))
 refine Q9 ?_
 refine W_openItems 200 700 rfl ?_
 refine W_ren 700 5 rfl ?_
 refine W_ren 701 6 rfl ?_
 refine W_nilRow 7 38 2 ?_
 refine Wt9 (P':=rowR itC 2 38 (.slice none 0 0) []) 7 rfl (fun h hp=>hp) ?_
 refine W_fact (r:=6) rfl (fun h hp x hx=>rd_one (hp x hx)) (fun (hone:∀ x ∈ ins,x.2.1.oneCell'=true)=>?_)
 refine R9 (G9 rfl rfl (N9 (X9 (Q9 (Q9 (R9 (G9 rfl rfl (N9 (X9 ?_)))))))))
 refine W_block ?_
 refine W_loop (α:=Nat × Value × List F3) (fun x=>[(3,v9),(4,x.2.1),(5,.int .i64 (x.1:Int))]) (fun x=>[(0,F),(5,rowR itC 2 38 v9 ins),(6,datI ins),(7,rowR itC 2 38 x.2.1 x.2.2)]) (fun x=>x.1≤ins.length∧x.2.2.length≤x.1∧x.2.2.length≤20∧(∀ q ∈ x.2.2,q ∈ ins)∧buildE x.2.2=0∧x.2.2.map tagF=goodC (ins.map tagF) x.1) (fun x=>ins.length - x.1) ((0,.slice none 0 0,[])) ⟨Nat.zero_le _,Nat.le_refl _,Nat.zero_le _,fun q hq=>absurd hq (by simp),rfl,rfl⟩ (a9 rfl) (a9 rfl) (fun x hx=>?_)
 obtain ⟨hx,hxl,hx20,hxm,hxb,hxt⟩:=hx
 refine Q9 (Q9 (R9 (M9 rfl rfl (M9 rfl rfl (L9 rfl (Pl9 (r:=5) rfl Tryz.runUnderlying24 rfl rfl rowR_rd) (L9 rfl (Pn9 rfl rfl rfl (run_lss _ _ _ _ _ _)) (M9 rfl rfl (Lg9 rfl rfl rfl rfl (by decide) (fun hb=>(Pm9 rfl rfl)) (Lg9 rfl rfl rfl rfl (by decide) (fun hb=>(Pl9 (r:=7) rfl Tryz.runUnderlying24 (ev_gv rfl hb) rfl rowR_rd)) (Lg9 rfl rfl rfl rfl (by decide) (fun hb=>(Pn9 rfl (ev_gv rfl hb) rfl (run_lss _ _ _ _ _ _))) (L9 rfl (Pu_and rfl rfl rfl) (N9 (X9 ?_)))))))))))))
 refine C9 rfl (fun hc18=>?_) (fun hc18=>?_)
 ·
  have hlt:x.1 < ins.length∧x.2.2.length < 20:=by simp only [Bool.and_eq_true,decide_eq_true_eq] at hc18; omega
  have hq1:=hone _ (it_get hlt.1)
  have hones:=its_ones (fun q hq=>hone q (hxm q hq))
  refine K9 (X9 ?_)
  refine Q9 ?_
  refine W_block ?_
  refine W_cut (α:=Unit) (fun _z=>[(3,v9),(4,x.2.1),(5,.int .i64 (x.1:Int)),(7,.int .i64 ((buildE (x.2.2++[(ins.getD x.1 it0)]):Nat):Int))]) (fun _z=>[(0,F),(5,rowR itC 2 38 v9 ins),(6,datI ins),(7,rowR itC 2 38 x.2.1 x.2.2)]) (fun _z=>True) ?_ (fun z hz=>?_)
  ·
   refine W_draw (N:=16) (by kernel_rfl) rfl [(0,_),(5,_)] ⟨rfl,rfl,trivial⟩ ?_
   refine (T9 1 rfl rfl (Pm9 rfl rfl) (T9 3 rfl rfl (Pm9 rfl rfl) (T9 4 rfl rfl (Pm9 rfl rfl) (T9 5 rfl rfl (Pi9 (r:=5) rfl Tryz.runUnderlying24 Tryz.sizeOf38 rfl rfl rfl rowR_rd (by omega)) (T9 6 rfl rfl (Pz9 (r:=5) rfl Tryz.isAgg38 Tryz.sizeOf38 rfl rfl rowR_rd rfl (by decide) (its_all hlt.1)) (Y9 [0,7,13] ?_))))))
   refine Z9 rfl rfl (OpT_buildRows (r:=151) [] rfl rfl Tryz.runUnderlying24 Tryz.sizeOf38 Tryz.zeroValue38 rfl (by decide) rfl (by decide) (by intro r hr; simp at hr) rfl (fun v22=>⟨⟨rfl,rfl,trivial⟩,?_⟩)) ?_
   ·
    refine AH_turn (P':=rowR itC 2 38 v22 []) 151 rfl (fun h hp=>hp) ?_
    refine (Y9 [2,7,13] ?_)
    refine Z9 rfl rfl (Oa9 (r:=151) (r2:=7) rfl Tryz.underlying24 TI.hi38 TI.hz38 TI.hs38 TI.hby38 TI.hzs38 (by decide) rfl rfl rfl rfl rowR_rd hones (by unfold maxLen; rw [List.length_nil]; omega) (by rw [List.length_nil]; omega) (fun v24=>?_)) ?_
    ·
     refine ⟨⟨rfl,rfl,trivial⟩,?_⟩
     refine AH_turn (P':=rowR itC 2 38 v24 ([]++x.2.2)) 151 rfl (fun h hp=>row_its hp (by rw [List.length_nil]) rfl) ?_
     refine (Y9 [7,13] ?_)
     refine Z9 rfl rfl (OpT_buildRows (r:=152) [itC (ins.getD x.1 it0)] rfl rfl Tryz.runUnderlying24 Tryz.sizeOf38 Tryz.zeroValue38 rfl (by decide) rfl (by decide) (by intro r hr; simp at hr; rw [hr]; rfl) rfl (fun v29=>⟨⟨rfl,rfl,trivial⟩,?_⟩)) ?_
     ·
      refine (Y9 [8,13] ?_)
      refine Z9 rfl rfl (Oa9 (r:=151) (r2:=152) rfl Tryz.underlying24 TI.hi38 TI.hz38 TI.hs38 TI.hby38 TI.hzs38 (by decide) rfl rfl rfl rfl (fun _ h=>rp9 h) (by rw [List.flatten_cons,List.flatten_nil,List.append_nil]; exact itC_one hq1) (by unfold maxLen; rw [List.nil_append]; omega) (by rw [List.nil_append]; omega) (fun v30=>?_)) ?_
      ·
       refine ⟨⟨rfl,rfl,trivial⟩,?_⟩
       refine AH_turn (P':=rowR itC 2 38 v30 (x.2.2++[(ins.getD x.1 it0)])) 151 rfl (fun h hp=>row_it hp) ?_
       refine (Y9 [9,13] ?_)
       refine Z9 rfl rfl (Oc9 200 [0,5,6,7,151,152] [] rfl Tryz.call21 rfl rfl rfl (by decide) (by decide) (good_next hlt.1 hlt.2 hxm his v30 _ (rs9 4 rfl rowR_rd) (datI_star 2 rfl (fun _ h=>h))) (fun v31 Ps31 hR31=>?_)) ?_
       ·
        obtain ⟨vt,idt,mt,lt,rfl,rfl,hit,hvt,_,_⟩:=hR31
        refine ⟨⟨rfl,rfl,trivial⟩,?_⟩
        refine (T9 10 rfl rfl (Pm9 rfl rfl) (T9 11 rfl rfl (Pe9 rfl rfl rfl) (T9 12 rfl rfl (Pe9 rfl rfl rfl) (Y9 [13] ?_))))
        refine Z9 rfl rfl (OpT_alloc (r:=201) (cs:=(refC (.slice none 0 0) zeroId false)) rfl (zero_run (by kernel_rfl:(Tryz.prog.info? 50).bind (·.zero)=some (.agg (refC (.slice none 0 0) zeroId false).toArray))) rfl (fun g201=>⟨⟨rfl,rfl,trivial⟩,?_⟩)) ?_
        ·
         refine (Y9 [14] ?_)
         refine Ac09 rfl rfl rfl (OpT_storeAll (r:=201) rfl Tryz.sizeOf50 rfl rfl rfl (refC_len zeroId_length) (refC_len hit) (refC_one hvt) ?_) ?_
         ·
          refine ⟨⟨rfl,rfl,trivial⟩,?_⟩
          refine (T9 15 rfl rfl (Pg9 rfl rfl) (Ad9 (by kernel_rfl) ?_))
          exact X_cut () trivial (a9 rfl) (a9 rfl)
         exact An9
        exact An9
       refine Z9 rfl rfl (OpT_alloc (r:=153) (cs:=(refC (.slice none 0 0) zeroId false)) rfl (zero_run (by kernel_rfl:(Tryz.prog.info? 50).bind (·.zero)=some (.agg (refC (.slice none 0 0) zeroId false).toArray))) rfl (fun g153=>⟨⟨rfl,rfl,trivial⟩,?_⟩)) ?_
       ·
        refine (Y9 [9] ?_)
        refine Z9 rfl rfl (Oc9 200 [0,5,6,7,151,152,153] [] rfl Tryz.call21 rfl rfl rfl (by decide) (by decide) (good_next hlt.1 hlt.2 hxm his v30 _ (rs9 4 rfl rowR_rd) (datI_star 2 rfl (fun _ h=>h))) (fun v31 Ps31 hR31=>?_)) ?_
        ·
         obtain ⟨vt,idt,mt,lt,rfl,rfl,hit,hvt,_,_⟩:=hR31
         refine ⟨⟨rfl,rfl,trivial⟩,?_⟩
         refine (T9 10 rfl rfl (Pm9 rfl rfl) (T9 11 rfl rfl (Pe9 rfl rfl rfl) (T9 12 rfl rfl (Pe9 rfl rfl rfl) (Y9 [14] ?_))))
         refine Ac09 rfl rfl rfl (OpT_storeAll (r:=153) rfl Tryz.sizeOf50 rfl rfl rfl (refC_len zeroId_length) (refC_len hit) (refC_one hvt) ?_) ?_
         ·
          refine ⟨⟨rfl,rfl,trivial⟩,?_⟩
          refine (T9 15 rfl rfl (Pg9 rfl rfl) (Ad9 (by kernel_rfl) ?_))
          exact X_cut () trivial (a9 rfl) (a9 rfl)
         exact An9
        exact An9
       exact An9
      refine Z9 rfl rfl (OpT_alloc (r:=153) (cs:=(refC (.slice none 0 0) zeroId false)) rfl (zero_run (by kernel_rfl:(Tryz.prog.info? 50).bind (·.zero)=some (.agg (refC (.slice none 0 0) zeroId false).toArray))) rfl (fun g153=>⟨⟨rfl,rfl,trivial⟩,?_⟩)) ?_
      ·
       refine (Y9 [8] ?_)
       refine Z9 rfl rfl (Oa9 (r:=151) (r2:=152) rfl Tryz.underlying24 TI.hi38 TI.hz38 TI.hs38 TI.hby38 TI.hzs38 (by decide) rfl rfl rfl rfl (fun _ h=>rp9 h) (by rw [List.flatten_cons,List.flatten_nil,List.append_nil]; exact itC_one hq1) (by unfold maxLen; rw [List.nil_append]; omega) (by rw [List.nil_append]; omega) (fun v30=>?_)) ?_
       ·
        refine ⟨⟨rfl,rfl,trivial⟩,?_⟩
        refine AH_turn (P':=rowR itC 2 38 v30 (x.2.2++[(ins.getD x.1 it0)])) 151 rfl (fun h hp=>row_it hp) ?_
        refine (Y9 [9] ?_)
        refine Z9 rfl rfl (Oc9 200 [0,5,6,7,151,152,153] [] rfl Tryz.call21 rfl rfl rfl (by decide) (by decide) (good_next hlt.1 hlt.2 hxm his v30 _ (rs9 4 rfl rowR_rd) (datI_star 2 rfl (fun _ h=>h))) (fun v31 Ps31 hR31=>?_)) ?_
        ·
         obtain ⟨vt,idt,mt,lt,rfl,rfl,hit,hvt,_,_⟩:=hR31
         refine ⟨⟨rfl,rfl,trivial⟩,?_⟩
         refine (T9 10 rfl rfl (Pm9 rfl rfl) (T9 11 rfl rfl (Pe9 rfl rfl rfl) (T9 12 rfl rfl (Pe9 rfl rfl rfl) (Y9 [14] ?_))))
         refine Ac09 rfl rfl rfl (OpT_storeAll (r:=153) rfl Tryz.sizeOf50 rfl rfl rfl (refC_len zeroId_length) (refC_len hit) (refC_one hvt) ?_) ?_
         ·
          refine ⟨⟨rfl,rfl,trivial⟩,?_⟩
          refine (T9 15 rfl rfl (Pg9 rfl rfl) (Ad9 (by kernel_rfl) ?_))
          exact X_cut () trivial (a9 rfl) (a9 rfl)
         exact An9
        exact An9
       exact An9
      exact An9
     refine Z9 rfl rfl (OpT_alloc (r:=152) (cs:=(refC (.slice none 0 0) zeroId false)) rfl (zero_run (by kernel_rfl:(Tryz.prog.info? 50).bind (·.zero)=some (.agg (refC (.slice none 0 0) zeroId false).toArray))) rfl (fun g152=>⟨⟨rfl,rfl,trivial⟩,?_⟩)) ?_
     ·
      refine (Y9 [7] ?_)
      refine Z9 rfl rfl (OpT_buildRows (r:=153) [itC (ins.getD x.1 it0)] rfl rfl Tryz.runUnderlying24 Tryz.sizeOf38 Tryz.zeroValue38 rfl (by decide) rfl (by decide) (by intro r hr; simp at hr; rw [hr]; rfl) rfl (fun v29=>⟨⟨rfl,rfl,trivial⟩,?_⟩)) ?_
      ·
       refine (Y9 [8] ?_)
       refine Z9 rfl rfl (Oa9 (r:=151) (r2:=153) rfl Tryz.underlying24 TI.hi38 TI.hz38 TI.hs38 TI.hby38 TI.hzs38 (by decide) rfl rfl rfl rfl (fun _ h=>rp9 h) (by rw [List.flatten_cons,List.flatten_nil,List.append_nil]; exact itC_one hq1) (by unfold maxLen; rw [List.nil_append]; omega) (by rw [List.nil_append]; omega) (fun v30=>?_)) ?_
       ·
        refine ⟨⟨rfl,rfl,trivial⟩,?_⟩
        refine AH_turn (P':=rowR itC 2 38 v30 (x.2.2++[(ins.getD x.1 it0)])) 151 rfl (fun h hp=>row_it hp) ?_
        refine (Y9 [9] ?_)
        refine Z9 rfl rfl (Oc9 200 [0,5,6,7,151,152,153] [] rfl Tryz.call21 rfl rfl rfl (by decide) (by decide) (good_next hlt.1 hlt.2 hxm his v30 _ (rs9 4 rfl rowR_rd) (datI_star 2 rfl (fun _ h=>h))) (fun v31 Ps31 hR31=>?_)) ?_
        ·
         obtain ⟨vt,idt,mt,lt,rfl,rfl,hit,hvt,_,_⟩:=hR31
         refine ⟨⟨rfl,rfl,trivial⟩,?_⟩
         refine (T9 10 rfl rfl (Pm9 rfl rfl) (T9 11 rfl rfl (Pe9 rfl rfl rfl) (T9 12 rfl rfl (Pe9 rfl rfl rfl) (Y9 [14] ?_))))
         refine Ac09 rfl rfl rfl (OpT_storeAll (r:=152) rfl Tryz.sizeOf50 rfl rfl rfl (refC_len zeroId_length) (refC_len hit) (refC_one hvt) ?_) ?_
         ·
          refine ⟨⟨rfl,rfl,trivial⟩,?_⟩
          refine (T9 15 rfl rfl (Pg9 rfl rfl) (Ad9 (by kernel_rfl) ?_))
          exact X_cut () trivial (a9 rfl) (a9 rfl)
         exact An9
        exact An9
       exact An9
      exact An9
     exact An9
    refine Z9 rfl rfl (OpT_buildRows (r:=152) [itC (ins.getD x.1 it0)] rfl rfl Tryz.runUnderlying24 Tryz.sizeOf38 Tryz.zeroValue38 rfl (by decide) rfl (by decide) (by intro r hr; simp at hr; rw [hr]; rfl) rfl (fun v29=>⟨⟨rfl,rfl,trivial⟩,?_⟩)) ?_
    ·
     refine (Y9 [2,13] ?_)
     refine Z9 rfl rfl (Oa9 (r:=151) (r2:=7) rfl Tryz.underlying24 TI.hi38 TI.hz38 TI.hs38 TI.hby38 TI.hzs38 (by decide) rfl rfl rfl rfl rowR_rd hones (by unfold maxLen; rw [List.length_nil]; omega) (by rw [List.length_nil]; omega) (fun v24=>?_)) ?_
     ·
      refine ⟨⟨rfl,rfl,trivial⟩,?_⟩
      refine AH_turn (P':=rowR itC 2 38 v24 ([]++x.2.2)) 151 rfl (fun h hp=>row_its hp (by rw [List.length_nil]) rfl) ?_
      refine (Y9 [8,13] ?_)
      refine Z9 rfl rfl (Oa9 (r:=151) (r2:=152) rfl Tryz.underlying24 TI.hi38 TI.hz38 TI.hs38 TI.hby38 TI.hzs38 (by decide) rfl rfl rfl rfl (fun _ h=>rp9 h) (by rw [List.flatten_cons,List.flatten_nil,List.append_nil]; exact itC_one hq1) (by unfold maxLen; rw [List.nil_append]; omega) (by rw [List.nil_append]; omega) (fun v30=>?_)) ?_
      ·
       refine ⟨⟨rfl,rfl,trivial⟩,?_⟩
       refine AH_turn (P':=rowR itC 2 38 v30 (x.2.2++[(ins.getD x.1 it0)])) 151 rfl (fun h hp=>row_it hp) ?_
       refine (Y9 [9,13] ?_)
       refine Z9 rfl rfl (Oc9 200 [0,5,6,7,151,152] [] rfl Tryz.call21 rfl rfl rfl (by decide) (by decide) (good_next hlt.1 hlt.2 hxm his v30 _ (rs9 4 rfl rowR_rd) (datI_star 2 rfl (fun _ h=>h))) (fun v31 Ps31 hR31=>?_)) ?_
       ·
        obtain ⟨vt,idt,mt,lt,rfl,rfl,hit,hvt,_,_⟩:=hR31
        refine ⟨⟨rfl,rfl,trivial⟩,?_⟩
        refine (T9 10 rfl rfl (Pm9 rfl rfl) (T9 11 rfl rfl (Pe9 rfl rfl rfl) (T9 12 rfl rfl (Pe9 rfl rfl rfl) (Y9 [13] ?_))))
        refine Z9 rfl rfl (OpT_alloc (r:=201) (cs:=(refC (.slice none 0 0) zeroId false)) rfl (zero_run (by kernel_rfl:(Tryz.prog.info? 50).bind (·.zero)=some (.agg (refC (.slice none 0 0) zeroId false).toArray))) rfl (fun g201=>⟨⟨rfl,rfl,trivial⟩,?_⟩)) ?_
        ·
         refine (Y9 [14] ?_)
         refine Ac09 rfl rfl rfl (OpT_storeAll (r:=201) rfl Tryz.sizeOf50 rfl rfl rfl (refC_len zeroId_length) (refC_len hit) (refC_one hvt) ?_) ?_
         ·
          refine ⟨⟨rfl,rfl,trivial⟩,?_⟩
          refine (T9 15 rfl rfl (Pg9 rfl rfl) (Ad9 (by kernel_rfl) ?_))
          exact X_cut () trivial (a9 rfl) (a9 rfl)
         exact An9
        exact An9
       refine Z9 rfl rfl (OpT_alloc (r:=153) (cs:=(refC (.slice none 0 0) zeroId false)) rfl (zero_run (by kernel_rfl:(Tryz.prog.info? 50).bind (·.zero)=some (.agg (refC (.slice none 0 0) zeroId false).toArray))) rfl (fun g153=>⟨⟨rfl,rfl,trivial⟩,?_⟩)) ?_
       ·
        refine (Y9 [9] ?_)
        refine Z9 rfl rfl (Oc9 200 [0,5,6,7,151,152,153] [] rfl Tryz.call21 rfl rfl rfl (by decide) (by decide) (good_next hlt.1 hlt.2 hxm his v30 _ (rs9 4 rfl rowR_rd) (datI_star 2 rfl (fun _ h=>h))) (fun v31 Ps31 hR31=>?_)) ?_
        ·
         obtain ⟨vt,idt,mt,lt,rfl,rfl,hit,hvt,_,_⟩:=hR31
         refine ⟨⟨rfl,rfl,trivial⟩,?_⟩
         refine (T9 10 rfl rfl (Pm9 rfl rfl) (T9 11 rfl rfl (Pe9 rfl rfl rfl) (T9 12 rfl rfl (Pe9 rfl rfl rfl) (Y9 [14] ?_))))
         refine Ac09 rfl rfl rfl (OpT_storeAll (r:=153) rfl Tryz.sizeOf50 rfl rfl rfl (refC_len zeroId_length) (refC_len hit) (refC_one hvt) ?_) ?_
         ·
          refine ⟨⟨rfl,rfl,trivial⟩,?_⟩
          refine (T9 15 rfl rfl (Pg9 rfl rfl) (Ad9 (by kernel_rfl) ?_))
          exact X_cut () trivial (a9 rfl) (a9 rfl)
         exact An9
        exact An9
       exact An9
      refine Z9 rfl rfl (OpT_alloc (r:=153) (cs:=(refC (.slice none 0 0) zeroId false)) rfl (zero_run (by kernel_rfl:(Tryz.prog.info? 50).bind (·.zero)=some (.agg (refC (.slice none 0 0) zeroId false).toArray))) rfl (fun g153=>⟨⟨rfl,rfl,trivial⟩,?_⟩)) ?_
      ·
       refine (Y9 [8] ?_)
       refine Z9 rfl rfl (Oa9 (r:=151) (r2:=152) rfl Tryz.underlying24 TI.hi38 TI.hz38 TI.hs38 TI.hby38 TI.hzs38 (by decide) rfl rfl rfl rfl (fun _ h=>rp9 h) (by rw [List.flatten_cons,List.flatten_nil,List.append_nil]; exact itC_one hq1) (by unfold maxLen; rw [List.nil_append]; omega) (by rw [List.nil_append]; omega) (fun v30=>?_)) ?_
       ·
        refine ⟨⟨rfl,rfl,trivial⟩,?_⟩
        refine AH_turn (P':=rowR itC 2 38 v30 (x.2.2++[(ins.getD x.1 it0)])) 151 rfl (fun h hp=>row_it hp) ?_
        refine (Y9 [9] ?_)
        refine Z9 rfl rfl (Oc9 200 [0,5,6,7,151,152,153] [] rfl Tryz.call21 rfl rfl rfl (by decide) (by decide) (good_next hlt.1 hlt.2 hxm his v30 _ (rs9 4 rfl rowR_rd) (datI_star 2 rfl (fun _ h=>h))) (fun v31 Ps31 hR31=>?_)) ?_
        ·
         obtain ⟨vt,idt,mt,lt,rfl,rfl,hit,hvt,_,_⟩:=hR31
         refine ⟨⟨rfl,rfl,trivial⟩,?_⟩
         refine (T9 10 rfl rfl (Pm9 rfl rfl) (T9 11 rfl rfl (Pe9 rfl rfl rfl) (T9 12 rfl rfl (Pe9 rfl rfl rfl) (Y9 [14] ?_))))
         refine Ac09 rfl rfl rfl (OpT_storeAll (r:=153) rfl Tryz.sizeOf50 rfl rfl rfl (refC_len zeroId_length) (refC_len hit) (refC_one hvt) ?_) ?_
         ·
          refine ⟨⟨rfl,rfl,trivial⟩,?_⟩
          refine (T9 15 rfl rfl (Pg9 rfl rfl) (Ad9 (by kernel_rfl) ?_))
          exact X_cut () trivial (a9 rfl) (a9 rfl)
         exact An9
        exact An9
       exact An9
      exact An9
     refine Z9 rfl rfl (OpT_alloc (r:=153) (cs:=(refC (.slice none 0 0) zeroId false)) rfl (zero_run (by kernel_rfl:(Tryz.prog.info? 50).bind (·.zero)=some (.agg (refC (.slice none 0 0) zeroId false).toArray))) rfl (fun g153=>⟨⟨rfl,rfl,trivial⟩,?_⟩)) ?_
     ·
      refine (Y9 [2] ?_)
      refine Z9 rfl rfl (Oa9 (r:=151) (r2:=7) rfl Tryz.underlying24 TI.hi38 TI.hz38 TI.hs38 TI.hby38 TI.hzs38 (by decide) rfl rfl rfl rfl rowR_rd hones (by unfold maxLen; rw [List.length_nil]; omega) (by rw [List.length_nil]; omega) (fun v24=>?_)) ?_
      ·
       refine ⟨⟨rfl,rfl,trivial⟩,?_⟩
       refine AH_turn (P':=rowR itC 2 38 v24 ([]++x.2.2)) 151 rfl (fun h hp=>row_its hp (by rw [List.length_nil]) rfl) ?_
       refine (Y9 [8] ?_)
       refine Z9 rfl rfl (Oa9 (r:=151) (r2:=152) rfl Tryz.underlying24 TI.hi38 TI.hz38 TI.hs38 TI.hby38 TI.hzs38 (by decide) rfl rfl rfl rfl (fun _ h=>rp9 h) (by rw [List.flatten_cons,List.flatten_nil,List.append_nil]; exact itC_one hq1) (by unfold maxLen; rw [List.nil_append]; omega) (by rw [List.nil_append]; omega) (fun v30=>?_)) ?_
       ·
        refine ⟨⟨rfl,rfl,trivial⟩,?_⟩
        refine AH_turn (P':=rowR itC 2 38 v30 (x.2.2++[(ins.getD x.1 it0)])) 151 rfl (fun h hp=>row_it hp) ?_
        refine (Y9 [9] ?_)
        refine Z9 rfl rfl (Oc9 200 [0,5,6,7,151,152,153] [] rfl Tryz.call21 rfl rfl rfl (by decide) (by decide) (good_next hlt.1 hlt.2 hxm his v30 _ (rs9 4 rfl rowR_rd) (datI_star 2 rfl (fun _ h=>h))) (fun v31 Ps31 hR31=>?_)) ?_
        ·
         obtain ⟨vt,idt,mt,lt,rfl,rfl,hit,hvt,_,_⟩:=hR31
         refine ⟨⟨rfl,rfl,trivial⟩,?_⟩
         refine (T9 10 rfl rfl (Pm9 rfl rfl) (T9 11 rfl rfl (Pe9 rfl rfl rfl) (T9 12 rfl rfl (Pe9 rfl rfl rfl) (Y9 [14] ?_))))
         refine Ac09 rfl rfl rfl (OpT_storeAll (r:=153) rfl Tryz.sizeOf50 rfl rfl rfl (refC_len zeroId_length) (refC_len hit) (refC_one hvt) ?_) ?_
         ·
          refine ⟨⟨rfl,rfl,trivial⟩,?_⟩
          refine (T9 15 rfl rfl (Pg9 rfl rfl) (Ad9 (by kernel_rfl) ?_))
          exact X_cut () trivial (a9 rfl) (a9 rfl)
         exact An9
        exact An9
       exact An9
      exact An9
     exact An9
    refine Z9 rfl rfl (OpT_alloc (r:=152) (cs:=(refC (.slice none 0 0) zeroId false)) rfl (zero_run (by kernel_rfl:(Tryz.prog.info? 50).bind (·.zero)=some (.agg (refC (.slice none 0 0) zeroId false).toArray))) rfl (fun g152=>⟨⟨rfl,rfl,trivial⟩,?_⟩)) ?_
    ·
     refine (Y9 [2,7] ?_)
     refine Z9 rfl rfl (Oa9 (r:=151) (r2:=7) rfl Tryz.underlying24 TI.hi38 TI.hz38 TI.hs38 TI.hby38 TI.hzs38 (by decide) rfl rfl rfl rfl rowR_rd hones (by unfold maxLen; rw [List.length_nil]; omega) (by rw [List.length_nil]; omega) (fun v24=>?_)) ?_
     ·
      refine ⟨⟨rfl,rfl,trivial⟩,?_⟩
      refine AH_turn (P':=rowR itC 2 38 v24 ([]++x.2.2)) 151 rfl (fun h hp=>row_its hp (by rw [List.length_nil]) rfl) ?_
      refine (Y9 [7] ?_)
      refine Z9 rfl rfl (OpT_buildRows (r:=153) [itC (ins.getD x.1 it0)] rfl rfl Tryz.runUnderlying24 Tryz.sizeOf38 Tryz.zeroValue38 rfl (by decide) rfl (by decide) (by intro r hr; simp at hr; rw [hr]; rfl) rfl (fun v29=>⟨⟨rfl,rfl,trivial⟩,?_⟩)) ?_
      ·
       refine (Y9 [8] ?_)
       refine Z9 rfl rfl (Oa9 (r:=151) (r2:=153) rfl Tryz.underlying24 TI.hi38 TI.hz38 TI.hs38 TI.hby38 TI.hzs38 (by decide) rfl rfl rfl rfl (fun _ h=>rp9 h) (by rw [List.flatten_cons,List.flatten_nil,List.append_nil]; exact itC_one hq1) (by unfold maxLen; rw [List.nil_append]; omega) (by rw [List.nil_append]; omega) (fun v30=>?_)) ?_
       ·
        refine ⟨⟨rfl,rfl,trivial⟩,?_⟩
        refine AH_turn (P':=rowR itC 2 38 v30 (x.2.2++[(ins.getD x.1 it0)])) 151 rfl (fun h hp=>row_it hp) ?_
        refine (Y9 [9] ?_)
        refine Z9 rfl rfl (Oc9 200 [0,5,6,7,151,152,153] [] rfl Tryz.call21 rfl rfl rfl (by decide) (by decide) (good_next hlt.1 hlt.2 hxm his v30 _ (rs9 4 rfl rowR_rd) (datI_star 2 rfl (fun _ h=>h))) (fun v31 Ps31 hR31=>?_)) ?_
        ·
         obtain ⟨vt,idt,mt,lt,rfl,rfl,hit,hvt,_,_⟩:=hR31
         refine ⟨⟨rfl,rfl,trivial⟩,?_⟩
         refine (T9 10 rfl rfl (Pm9 rfl rfl) (T9 11 rfl rfl (Pe9 rfl rfl rfl) (T9 12 rfl rfl (Pe9 rfl rfl rfl) (Y9 [14] ?_))))
         refine Ac09 rfl rfl rfl (OpT_storeAll (r:=152) rfl Tryz.sizeOf50 rfl rfl rfl (refC_len zeroId_length) (refC_len hit) (refC_one hvt) ?_) ?_
         ·
          refine ⟨⟨rfl,rfl,trivial⟩,?_⟩
          refine (T9 15 rfl rfl (Pg9 rfl rfl) (Ad9 (by kernel_rfl) ?_))
          exact X_cut () trivial (a9 rfl) (a9 rfl)
         exact An9
        exact An9
       exact An9
      exact An9
     refine Z9 rfl rfl (OpT_buildRows (r:=153) [itC (ins.getD x.1 it0)] rfl rfl Tryz.runUnderlying24 Tryz.sizeOf38 Tryz.zeroValue38 rfl (by decide) rfl (by decide) (by intro r hr; simp at hr; rw [hr]; rfl) rfl (fun v29=>⟨⟨rfl,rfl,trivial⟩,?_⟩)) ?_
     ·
      refine (Y9 [2] ?_)
      refine Z9 rfl rfl (Oa9 (r:=151) (r2:=7) rfl Tryz.underlying24 TI.hi38 TI.hz38 TI.hs38 TI.hby38 TI.hzs38 (by decide) rfl rfl rfl rfl rowR_rd hones (by unfold maxLen; rw [List.length_nil]; omega) (by rw [List.length_nil]; omega) (fun v24=>?_)) ?_
      ·
       refine ⟨⟨rfl,rfl,trivial⟩,?_⟩
       refine AH_turn (P':=rowR itC 2 38 v24 ([]++x.2.2)) 151 rfl (fun h hp=>row_its hp (by rw [List.length_nil]) rfl) ?_
       refine (Y9 [8] ?_)
       refine Z9 rfl rfl (Oa9 (r:=151) (r2:=153) rfl Tryz.underlying24 TI.hi38 TI.hz38 TI.hs38 TI.hby38 TI.hzs38 (by decide) rfl rfl rfl rfl (fun _ h=>rp9 h) (by rw [List.flatten_cons,List.flatten_nil,List.append_nil]; exact itC_one hq1) (by unfold maxLen; rw [List.nil_append]; omega) (by rw [List.nil_append]; omega) (fun v30=>?_)) ?_
       ·
        refine ⟨⟨rfl,rfl,trivial⟩,?_⟩
        refine AH_turn (P':=rowR itC 2 38 v30 (x.2.2++[(ins.getD x.1 it0)])) 151 rfl (fun h hp=>row_it hp) ?_
        refine (Y9 [9] ?_)
        refine Z9 rfl rfl (Oc9 200 [0,5,6,7,151,152,153] [] rfl Tryz.call21 rfl rfl rfl (by decide) (by decide) (good_next hlt.1 hlt.2 hxm his v30 _ (rs9 4 rfl rowR_rd) (datI_star 2 rfl (fun _ h=>h))) (fun v31 Ps31 hR31=>?_)) ?_
        ·
         obtain ⟨vt,idt,mt,lt,rfl,rfl,hit,hvt,_,_⟩:=hR31
         refine ⟨⟨rfl,rfl,trivial⟩,?_⟩
         refine (T9 10 rfl rfl (Pm9 rfl rfl) (T9 11 rfl rfl (Pe9 rfl rfl rfl) (T9 12 rfl rfl (Pe9 rfl rfl rfl) (Y9 [14] ?_))))
         refine Ac09 rfl rfl rfl (OpT_storeAll (r:=152) rfl Tryz.sizeOf50 rfl rfl rfl (refC_len zeroId_length) (refC_len hit) (refC_one hvt) ?_) ?_
         ·
          refine ⟨⟨rfl,rfl,trivial⟩,?_⟩
          refine (T9 15 rfl rfl (Pg9 rfl rfl) (Ad9 (by kernel_rfl) ?_))
          exact X_cut () trivial (a9 rfl) (a9 rfl)
         exact An9
        exact An9
       exact An9
      exact An9
     exact An9
    exact An9
   refine Z9 rfl rfl (OpT_buildRows (r:=151) [itC (ins.getD x.1 it0)] rfl rfl Tryz.runUnderlying24 Tryz.sizeOf38 Tryz.zeroValue38 rfl (by decide) rfl (by decide) (by intro r hr; simp at hr; rw [hr]; rfl) rfl (fun v29=>⟨⟨rfl,rfl,trivial⟩,?_⟩)) ?_
   ·
    refine (Y9 [0,13] ?_)
    refine Z9 rfl rfl (OpT_buildRows (r:=152) [] rfl rfl Tryz.runUnderlying24 Tryz.sizeOf38 Tryz.zeroValue38 rfl (by decide) rfl (by decide) (by intro r hr; simp at hr) rfl (fun v22=>⟨⟨rfl,rfl,trivial⟩,?_⟩)) ?_
    ·
     refine AH_turn (P':=rowR itC 2 38 v22 []) 152 rfl (fun h hp=>hp) ?_
     refine (Y9 [2,13] ?_)
     refine Z9 rfl rfl (Oa9 (r:=152) (r2:=7) rfl Tryz.underlying24 TI.hi38 TI.hz38 TI.hs38 TI.hby38 TI.hzs38 (by decide) rfl rfl rfl rfl rowR_rd hones (by unfold maxLen; rw [List.length_nil]; omega) (by rw [List.length_nil]; omega) (fun v24=>?_)) ?_
     ·
      refine ⟨⟨rfl,rfl,trivial⟩,?_⟩
      refine AH_turn (P':=rowR itC 2 38 v24 ([]++x.2.2)) 152 rfl (fun h hp=>row_its hp (by rw [List.length_nil]) rfl) ?_
      refine (Y9 [8,13] ?_)
      refine Z9 rfl rfl (Oa9 (r:=152) (r2:=151) rfl Tryz.underlying24 TI.hi38 TI.hz38 TI.hs38 TI.hby38 TI.hzs38 (by decide) rfl rfl rfl rfl (fun _ h=>rp9 h) (by rw [List.flatten_cons,List.flatten_nil,List.append_nil]; exact itC_one hq1) (by unfold maxLen; rw [List.nil_append]; omega) (by rw [List.nil_append]; omega) (fun v30=>?_)) ?_
      ·
       refine ⟨⟨rfl,rfl,trivial⟩,?_⟩
       refine AH_turn (P':=rowR itC 2 38 v30 (x.2.2++[(ins.getD x.1 it0)])) 152 rfl (fun h hp=>row_it hp) ?_
       refine (Y9 [9,13] ?_)
       refine Z9 rfl rfl (Oc9 200 [0,5,6,7,151,152] [] rfl Tryz.call21 rfl rfl rfl (by decide) (by decide) (good_next hlt.1 hlt.2 hxm his v30 _ (rs9 5 rfl rowR_rd) (datI_star 2 rfl (fun _ h=>h))) (fun v31 Ps31 hR31=>?_)) ?_
       ·
        obtain ⟨vt,idt,mt,lt,rfl,rfl,hit,hvt,_,_⟩:=hR31
        refine ⟨⟨rfl,rfl,trivial⟩,?_⟩
        refine (T9 10 rfl rfl (Pm9 rfl rfl) (T9 11 rfl rfl (Pe9 rfl rfl rfl) (T9 12 rfl rfl (Pe9 rfl rfl rfl) (Y9 [13] ?_))))
        refine Z9 rfl rfl (OpT_alloc (r:=201) (cs:=(refC (.slice none 0 0) zeroId false)) rfl (zero_run (by kernel_rfl:(Tryz.prog.info? 50).bind (·.zero)=some (.agg (refC (.slice none 0 0) zeroId false).toArray))) rfl (fun g201=>⟨⟨rfl,rfl,trivial⟩,?_⟩)) ?_
        ·
         refine (Y9 [14] ?_)
         refine Ac09 rfl rfl rfl (OpT_storeAll (r:=201) rfl Tryz.sizeOf50 rfl rfl rfl (refC_len zeroId_length) (refC_len hit) (refC_one hvt) ?_) ?_
         ·
          refine ⟨⟨rfl,rfl,trivial⟩,?_⟩
          refine (T9 15 rfl rfl (Pg9 rfl rfl) (Ad9 (by kernel_rfl) ?_))
          exact X_cut () trivial (a9 rfl) (a9 rfl)
         exact An9
        exact An9
       refine Z9 rfl rfl (OpT_alloc (r:=153) (cs:=(refC (.slice none 0 0) zeroId false)) rfl (zero_run (by kernel_rfl:(Tryz.prog.info? 50).bind (·.zero)=some (.agg (refC (.slice none 0 0) zeroId false).toArray))) rfl (fun g153=>⟨⟨rfl,rfl,trivial⟩,?_⟩)) ?_
       ·
        refine (Y9 [9] ?_)
        refine Z9 rfl rfl (Oc9 200 [0,5,6,7,151,152,153] [] rfl Tryz.call21 rfl rfl rfl (by decide) (by decide) (good_next hlt.1 hlt.2 hxm his v30 _ (rs9 5 rfl rowR_rd) (datI_star 2 rfl (fun _ h=>h))) (fun v31 Ps31 hR31=>?_)) ?_
        ·
         obtain ⟨vt,idt,mt,lt,rfl,rfl,hit,hvt,_,_⟩:=hR31
         refine ⟨⟨rfl,rfl,trivial⟩,?_⟩
         refine (T9 10 rfl rfl (Pm9 rfl rfl) (T9 11 rfl rfl (Pe9 rfl rfl rfl) (T9 12 rfl rfl (Pe9 rfl rfl rfl) (Y9 [14] ?_))))
         refine Ac09 rfl rfl rfl (OpT_storeAll (r:=153) rfl Tryz.sizeOf50 rfl rfl rfl (refC_len zeroId_length) (refC_len hit) (refC_one hvt) ?_) ?_
         ·
          refine ⟨⟨rfl,rfl,trivial⟩,?_⟩
          refine (T9 15 rfl rfl (Pg9 rfl rfl) (Ad9 (by kernel_rfl) ?_))
          exact X_cut () trivial (a9 rfl) (a9 rfl)
         exact An9
        exact An9
       exact An9
      refine Z9 rfl rfl (OpT_alloc (r:=153) (cs:=(refC (.slice none 0 0) zeroId false)) rfl (zero_run (by kernel_rfl:(Tryz.prog.info? 50).bind (·.zero)=some (.agg (refC (.slice none 0 0) zeroId false).toArray))) rfl (fun g153=>⟨⟨rfl,rfl,trivial⟩,?_⟩)) ?_
      ·
       refine (Y9 [8] ?_)
       refine Z9 rfl rfl (Oa9 (r:=152) (r2:=151) rfl Tryz.underlying24 TI.hi38 TI.hz38 TI.hs38 TI.hby38 TI.hzs38 (by decide) rfl rfl rfl rfl (fun _ h=>rp9 h) (by rw [List.flatten_cons,List.flatten_nil,List.append_nil]; exact itC_one hq1) (by unfold maxLen; rw [List.nil_append]; omega) (by rw [List.nil_append]; omega) (fun v30=>?_)) ?_
       ·
        refine ⟨⟨rfl,rfl,trivial⟩,?_⟩
        refine AH_turn (P':=rowR itC 2 38 v30 (x.2.2++[(ins.getD x.1 it0)])) 152 rfl (fun h hp=>row_it hp) ?_
        refine (Y9 [9] ?_)
        refine Z9 rfl rfl (Oc9 200 [0,5,6,7,151,152,153] [] rfl Tryz.call21 rfl rfl rfl (by decide) (by decide) (good_next hlt.1 hlt.2 hxm his v30 _ (rs9 5 rfl rowR_rd) (datI_star 2 rfl (fun _ h=>h))) (fun v31 Ps31 hR31=>?_)) ?_
        ·
         obtain ⟨vt,idt,mt,lt,rfl,rfl,hit,hvt,_,_⟩:=hR31
         refine ⟨⟨rfl,rfl,trivial⟩,?_⟩
         refine (T9 10 rfl rfl (Pm9 rfl rfl) (T9 11 rfl rfl (Pe9 rfl rfl rfl) (T9 12 rfl rfl (Pe9 rfl rfl rfl) (Y9 [14] ?_))))
         refine Ac09 rfl rfl rfl (OpT_storeAll (r:=153) rfl Tryz.sizeOf50 rfl rfl rfl (refC_len zeroId_length) (refC_len hit) (refC_one hvt) ?_) ?_
         ·
          refine ⟨⟨rfl,rfl,trivial⟩,?_⟩
          refine (T9 15 rfl rfl (Pg9 rfl rfl) (Ad9 (by kernel_rfl) ?_))
          exact X_cut () trivial (a9 rfl) (a9 rfl)
         exact An9
        exact An9
       exact An9
      exact An9
     refine Z9 rfl rfl (OpT_alloc (r:=153) (cs:=(refC (.slice none 0 0) zeroId false)) rfl (zero_run (by kernel_rfl:(Tryz.prog.info? 50).bind (·.zero)=some (.agg (refC (.slice none 0 0) zeroId false).toArray))) rfl (fun g153=>⟨⟨rfl,rfl,trivial⟩,?_⟩)) ?_
     ·
      refine (Y9 [2] ?_)
      refine Z9 rfl rfl (Oa9 (r:=152) (r2:=7) rfl Tryz.underlying24 TI.hi38 TI.hz38 TI.hs38 TI.hby38 TI.hzs38 (by decide) rfl rfl rfl rfl rowR_rd hones (by unfold maxLen; rw [List.length_nil]; omega) (by rw [List.length_nil]; omega) (fun v24=>?_)) ?_
      ·
       refine ⟨⟨rfl,rfl,trivial⟩,?_⟩
       refine AH_turn (P':=rowR itC 2 38 v24 ([]++x.2.2)) 152 rfl (fun h hp=>row_its hp (by rw [List.length_nil]) rfl) ?_
       refine (Y9 [8] ?_)
       refine Z9 rfl rfl (Oa9 (r:=152) (r2:=151) rfl Tryz.underlying24 TI.hi38 TI.hz38 TI.hs38 TI.hby38 TI.hzs38 (by decide) rfl rfl rfl rfl (fun _ h=>rp9 h) (by rw [List.flatten_cons,List.flatten_nil,List.append_nil]; exact itC_one hq1) (by unfold maxLen; rw [List.nil_append]; omega) (by rw [List.nil_append]; omega) (fun v30=>?_)) ?_
       ·
        refine ⟨⟨rfl,rfl,trivial⟩,?_⟩
        refine AH_turn (P':=rowR itC 2 38 v30 (x.2.2++[(ins.getD x.1 it0)])) 152 rfl (fun h hp=>row_it hp) ?_
        refine (Y9 [9] ?_)
        refine Z9 rfl rfl (Oc9 200 [0,5,6,7,151,152,153] [] rfl Tryz.call21 rfl rfl rfl (by decide) (by decide) (good_next hlt.1 hlt.2 hxm his v30 _ (rs9 5 rfl rowR_rd) (datI_star 2 rfl (fun _ h=>h))) (fun v31 Ps31 hR31=>?_)) ?_
        ·
         obtain ⟨vt,idt,mt,lt,rfl,rfl,hit,hvt,_,_⟩:=hR31
         refine ⟨⟨rfl,rfl,trivial⟩,?_⟩
         refine (T9 10 rfl rfl (Pm9 rfl rfl) (T9 11 rfl rfl (Pe9 rfl rfl rfl) (T9 12 rfl rfl (Pe9 rfl rfl rfl) (Y9 [14] ?_))))
         refine Ac09 rfl rfl rfl (OpT_storeAll (r:=153) rfl Tryz.sizeOf50 rfl rfl rfl (refC_len zeroId_length) (refC_len hit) (refC_one hvt) ?_) ?_
         ·
          refine ⟨⟨rfl,rfl,trivial⟩,?_⟩
          refine (T9 15 rfl rfl (Pg9 rfl rfl) (Ad9 (by kernel_rfl) ?_))
          exact X_cut () trivial (a9 rfl) (a9 rfl)
         exact An9
        exact An9
       exact An9
      exact An9
     exact An9
    refine Z9 rfl rfl (OpT_alloc (r:=152) (cs:=(refC (.slice none 0 0) zeroId false)) rfl (zero_run (by kernel_rfl:(Tryz.prog.info? 50).bind (·.zero)=some (.agg (refC (.slice none 0 0) zeroId false).toArray))) rfl (fun g152=>⟨⟨rfl,rfl,trivial⟩,?_⟩)) ?_
    ·
     refine (Y9 [0] ?_)
     refine Z9 rfl rfl (OpT_buildRows (r:=153) [] rfl rfl Tryz.runUnderlying24 Tryz.sizeOf38 Tryz.zeroValue38 rfl (by decide) rfl (by decide) (by intro r hr; simp at hr) rfl (fun v22=>⟨⟨rfl,rfl,trivial⟩,?_⟩)) ?_
     ·
      refine AH_turn (P':=rowR itC 2 38 v22 []) 153 rfl (fun h hp=>hp) ?_
      refine (Y9 [2] ?_)
      refine Z9 rfl rfl (Oa9 (r:=153) (r2:=7) rfl Tryz.underlying24 TI.hi38 TI.hz38 TI.hs38 TI.hby38 TI.hzs38 (by decide) rfl rfl rfl rfl rowR_rd hones (by unfold maxLen; rw [List.length_nil]; omega) (by rw [List.length_nil]; omega) (fun v24=>?_)) ?_
      ·
       refine ⟨⟨rfl,rfl,trivial⟩,?_⟩
       refine AH_turn (P':=rowR itC 2 38 v24 ([]++x.2.2)) 153 rfl (fun h hp=>row_its hp (by rw [List.length_nil]) rfl) ?_
       refine (Y9 [8] ?_)
       refine Z9 rfl rfl (Oa9 (r:=153) (r2:=151) rfl Tryz.underlying24 TI.hi38 TI.hz38 TI.hs38 TI.hby38 TI.hzs38 (by decide) rfl rfl rfl rfl (fun _ h=>rp9 h) (by rw [List.flatten_cons,List.flatten_nil,List.append_nil]; exact itC_one hq1) (by unfold maxLen; rw [List.nil_append]; omega) (by rw [List.nil_append]; omega) (fun v30=>?_)) ?_
       ·
        refine ⟨⟨rfl,rfl,trivial⟩,?_⟩
        refine AH_turn (P':=rowR itC 2 38 v30 (x.2.2++[(ins.getD x.1 it0)])) 153 rfl (fun h hp=>row_it hp) ?_
        refine (Y9 [9] ?_)
        refine Z9 rfl rfl (Oc9 200 [0,5,6,7,151,152,153] [] rfl Tryz.call21 rfl rfl rfl (by decide) (by decide) (good_next hlt.1 hlt.2 hxm his v30 _ (rs9 6 rfl rowR_rd) (datI_star 2 rfl (fun _ h=>h))) (fun v31 Ps31 hR31=>?_)) ?_
        ·
         obtain ⟨vt,idt,mt,lt,rfl,rfl,hit,hvt,_,_⟩:=hR31
         refine ⟨⟨rfl,rfl,trivial⟩,?_⟩
         refine (T9 10 rfl rfl (Pm9 rfl rfl) (T9 11 rfl rfl (Pe9 rfl rfl rfl) (T9 12 rfl rfl (Pe9 rfl rfl rfl) (Y9 [14] ?_))))
         refine Ac09 rfl rfl rfl (OpT_storeAll (r:=152) rfl Tryz.sizeOf50 rfl rfl rfl (refC_len zeroId_length) (refC_len hit) (refC_one hvt) ?_) ?_
         ·
          refine ⟨⟨rfl,rfl,trivial⟩,?_⟩
          refine (T9 15 rfl rfl (Pg9 rfl rfl) (Ad9 (by kernel_rfl) ?_))
          exact X_cut () trivial (a9 rfl) (a9 rfl)
         exact An9
        exact An9
       exact An9
      exact An9
     exact An9
    exact An9
   refine Z9 rfl rfl (OpT_alloc (r:=151) (cs:=(refC (.slice none 0 0) zeroId false)) rfl (zero_run (by kernel_rfl:(Tryz.prog.info? 50).bind (·.zero)=some (.agg (refC (.slice none 0 0) zeroId false).toArray))) rfl (fun g151=>⟨⟨rfl,rfl,trivial⟩,?_⟩)) ?_
   ·
    refine (Y9 [0,7] ?_)
    refine Z9 rfl rfl (OpT_buildRows (r:=152) [] rfl rfl Tryz.runUnderlying24 Tryz.sizeOf38 Tryz.zeroValue38 rfl (by decide) rfl (by decide) (by intro r hr; simp at hr) rfl (fun v22=>⟨⟨rfl,rfl,trivial⟩,?_⟩)) ?_
    ·
     refine AH_turn (P':=rowR itC 2 38 v22 []) 152 rfl (fun h hp=>hp) ?_
     refine (Y9 [2,7] ?_)
     refine Z9 rfl rfl (Oa9 (r:=152) (r2:=7) rfl Tryz.underlying24 TI.hi38 TI.hz38 TI.hs38 TI.hby38 TI.hzs38 (by decide) rfl rfl rfl rfl rowR_rd hones (by unfold maxLen; rw [List.length_nil]; omega) (by rw [List.length_nil]; omega) (fun v24=>?_)) ?_
     ·
      refine ⟨⟨rfl,rfl,trivial⟩,?_⟩
      refine AH_turn (P':=rowR itC 2 38 v24 ([]++x.2.2)) 152 rfl (fun h hp=>row_its hp (by rw [List.length_nil]) rfl) ?_
      refine (Y9 [7] ?_)
      refine Z9 rfl rfl (OpT_buildRows (r:=153) [itC (ins.getD x.1 it0)] rfl rfl Tryz.runUnderlying24 Tryz.sizeOf38 Tryz.zeroValue38 rfl (by decide) rfl (by decide) (by intro r hr; simp at hr; rw [hr]; rfl) rfl (fun v29=>⟨⟨rfl,rfl,trivial⟩,?_⟩)) ?_
      ·
       refine (Y9 [8] ?_)
       refine Z9 rfl rfl (Oa9 (r:=152) (r2:=153) rfl Tryz.underlying24 TI.hi38 TI.hz38 TI.hs38 TI.hby38 TI.hzs38 (by decide) rfl rfl rfl rfl (fun _ h=>rp9 h) (by rw [List.flatten_cons,List.flatten_nil,List.append_nil]; exact itC_one hq1) (by unfold maxLen; rw [List.nil_append]; omega) (by rw [List.nil_append]; omega) (fun v30=>?_)) ?_
       ·
        refine ⟨⟨rfl,rfl,trivial⟩,?_⟩
        refine AH_turn (P':=rowR itC 2 38 v30 (x.2.2++[(ins.getD x.1 it0)])) 152 rfl (fun h hp=>row_it hp) ?_
        refine (Y9 [9] ?_)
        refine Z9 rfl rfl (Oc9 200 [0,5,6,7,151,152,153] [] rfl Tryz.call21 rfl rfl rfl (by decide) (by decide) (good_next hlt.1 hlt.2 hxm his v30 _ (rs9 5 rfl rowR_rd) (datI_star 2 rfl (fun _ h=>h))) (fun v31 Ps31 hR31=>?_)) ?_
        ·
         obtain ⟨vt,idt,mt,lt,rfl,rfl,hit,hvt,_,_⟩:=hR31
         refine ⟨⟨rfl,rfl,trivial⟩,?_⟩
         refine (T9 10 rfl rfl (Pm9 rfl rfl) (T9 11 rfl rfl (Pe9 rfl rfl rfl) (T9 12 rfl rfl (Pe9 rfl rfl rfl) (Y9 [14] ?_))))
         refine Ac09 rfl rfl rfl (OpT_storeAll (r:=151) rfl Tryz.sizeOf50 rfl rfl rfl (refC_len zeroId_length) (refC_len hit) (refC_one hvt) ?_) ?_
         ·
          refine ⟨⟨rfl,rfl,trivial⟩,?_⟩
          refine (T9 15 rfl rfl (Pg9 rfl rfl) (Ad9 (by kernel_rfl) ?_))
          exact X_cut () trivial (a9 rfl) (a9 rfl)
         exact An9
        exact An9
       exact An9
      exact An9
     refine Z9 rfl rfl (OpT_buildRows (r:=153) [itC (ins.getD x.1 it0)] rfl rfl Tryz.runUnderlying24 Tryz.sizeOf38 Tryz.zeroValue38 rfl (by decide) rfl (by decide) (by intro r hr; simp at hr; rw [hr]; rfl) rfl (fun v29=>⟨⟨rfl,rfl,trivial⟩,?_⟩)) ?_
     ·
      refine (Y9 [2] ?_)
      refine Z9 rfl rfl (Oa9 (r:=152) (r2:=7) rfl Tryz.underlying24 TI.hi38 TI.hz38 TI.hs38 TI.hby38 TI.hzs38 (by decide) rfl rfl rfl rfl rowR_rd hones (by unfold maxLen; rw [List.length_nil]; omega) (by rw [List.length_nil]; omega) (fun v24=>?_)) ?_
      ·
       refine ⟨⟨rfl,rfl,trivial⟩,?_⟩
       refine AH_turn (P':=rowR itC 2 38 v24 ([]++x.2.2)) 152 rfl (fun h hp=>row_its hp (by rw [List.length_nil]) rfl) ?_
       refine (Y9 [8] ?_)
       refine Z9 rfl rfl (Oa9 (r:=152) (r2:=153) rfl Tryz.underlying24 TI.hi38 TI.hz38 TI.hs38 TI.hby38 TI.hzs38 (by decide) rfl rfl rfl rfl (fun _ h=>rp9 h) (by rw [List.flatten_cons,List.flatten_nil,List.append_nil]; exact itC_one hq1) (by unfold maxLen; rw [List.nil_append]; omega) (by rw [List.nil_append]; omega) (fun v30=>?_)) ?_
       ·
        refine ⟨⟨rfl,rfl,trivial⟩,?_⟩
        refine AH_turn (P':=rowR itC 2 38 v30 (x.2.2++[(ins.getD x.1 it0)])) 152 rfl (fun h hp=>row_it hp) ?_
        refine (Y9 [9] ?_)
        refine Z9 rfl rfl (Oc9 200 [0,5,6,7,151,152,153] [] rfl Tryz.call21 rfl rfl rfl (by decide) (by decide) (good_next hlt.1 hlt.2 hxm his v30 _ (rs9 5 rfl rowR_rd) (datI_star 2 rfl (fun _ h=>h))) (fun v31 Ps31 hR31=>?_)) ?_
        ·
         obtain ⟨vt,idt,mt,lt,rfl,rfl,hit,hvt,_,_⟩:=hR31
         refine ⟨⟨rfl,rfl,trivial⟩,?_⟩
         refine (T9 10 rfl rfl (Pm9 rfl rfl) (T9 11 rfl rfl (Pe9 rfl rfl rfl) (T9 12 rfl rfl (Pe9 rfl rfl rfl) (Y9 [14] ?_))))
         refine Ac09 rfl rfl rfl (OpT_storeAll (r:=151) rfl Tryz.sizeOf50 rfl rfl rfl (refC_len zeroId_length) (refC_len hit) (refC_one hvt) ?_) ?_
         ·
          refine ⟨⟨rfl,rfl,trivial⟩,?_⟩
          refine (T9 15 rfl rfl (Pg9 rfl rfl) (Ad9 (by kernel_rfl) ?_))
          exact X_cut () trivial (a9 rfl) (a9 rfl)
         exact An9
        exact An9
       exact An9
      exact An9
     exact An9
    refine Z9 rfl rfl (OpT_buildRows (r:=152) [itC (ins.getD x.1 it0)] rfl rfl Tryz.runUnderlying24 Tryz.sizeOf38 Tryz.zeroValue38 rfl (by decide) rfl (by decide) (by intro r hr; simp at hr; rw [hr]; rfl) rfl (fun v29=>⟨⟨rfl,rfl,trivial⟩,?_⟩)) ?_
    ·
     refine (Y9 [0] ?_)
     refine Z9 rfl rfl (OpT_buildRows (r:=153) [] rfl rfl Tryz.runUnderlying24 Tryz.sizeOf38 Tryz.zeroValue38 rfl (by decide) rfl (by decide) (by intro r hr; simp at hr) rfl (fun v22=>⟨⟨rfl,rfl,trivial⟩,?_⟩)) ?_
     ·
      refine AH_turn (P':=rowR itC 2 38 v22 []) 153 rfl (fun h hp=>hp) ?_
      refine (Y9 [2] ?_)
      refine Z9 rfl rfl (Oa9 (r:=153) (r2:=7) rfl Tryz.underlying24 TI.hi38 TI.hz38 TI.hs38 TI.hby38 TI.hzs38 (by decide) rfl rfl rfl rfl rowR_rd hones (by unfold maxLen; rw [List.length_nil]; omega) (by rw [List.length_nil]; omega) (fun v24=>?_)) ?_
      ·
       refine ⟨⟨rfl,rfl,trivial⟩,?_⟩
       refine AH_turn (P':=rowR itC 2 38 v24 ([]++x.2.2)) 153 rfl (fun h hp=>row_its hp (by rw [List.length_nil]) rfl) ?_
       refine (Y9 [8] ?_)
       refine Z9 rfl rfl (Oa9 (r:=153) (r2:=152) rfl Tryz.underlying24 TI.hi38 TI.hz38 TI.hs38 TI.hby38 TI.hzs38 (by decide) rfl rfl rfl rfl (fun _ h=>rp9 h) (by rw [List.flatten_cons,List.flatten_nil,List.append_nil]; exact itC_one hq1) (by unfold maxLen; rw [List.nil_append]; omega) (by rw [List.nil_append]; omega) (fun v30=>?_)) ?_
       ·
        refine ⟨⟨rfl,rfl,trivial⟩,?_⟩
        refine AH_turn (P':=rowR itC 2 38 v30 (x.2.2++[(ins.getD x.1 it0)])) 153 rfl (fun h hp=>row_it hp) ?_
        refine (Y9 [9] ?_)
        refine Z9 rfl rfl (Oc9 200 [0,5,6,7,151,152,153] [] rfl Tryz.call21 rfl rfl rfl (by decide) (by decide) (good_next hlt.1 hlt.2 hxm his v30 _ (rs9 6 rfl rowR_rd) (datI_star 2 rfl (fun _ h=>h))) (fun v31 Ps31 hR31=>?_)) ?_
        ·
         obtain ⟨vt,idt,mt,lt,rfl,rfl,hit,hvt,_,_⟩:=hR31
         refine ⟨⟨rfl,rfl,trivial⟩,?_⟩
         refine (T9 10 rfl rfl (Pm9 rfl rfl) (T9 11 rfl rfl (Pe9 rfl rfl rfl) (T9 12 rfl rfl (Pe9 rfl rfl rfl) (Y9 [14] ?_))))
         refine Ac09 rfl rfl rfl (OpT_storeAll (r:=151) rfl Tryz.sizeOf50 rfl rfl rfl (refC_len zeroId_length) (refC_len hit) (refC_one hvt) ?_) ?_
         ·
          refine ⟨⟨rfl,rfl,trivial⟩,?_⟩
          refine (T9 15 rfl rfl (Pg9 rfl rfl) (Ad9 (by kernel_rfl) ?_))
          exact X_cut () trivial (a9 rfl) (a9 rfl)
         exact An9
        exact An9
       exact An9
      exact An9
     exact An9
    exact An9
   exact An9
  ·
   refine Q9 (R9 (M9 rfl rfl (L9 rfl (Pn9 rfl rfl rfl (run_eql _ _ _ _ _ _)) (N9 (X9 ?_)))))
   refine C9 rfl (fun hc35=>?_) (fun hc35=>?_)
   ·
    have hb35:buildE (x.2.2++[(ins.getD x.1 it0)])=0:=by have:=of_decide_eq_true hc35; omega
    refine R9 (M9 rfl rfl (M9 rfl rfl (M9 rfl rfl (L9 rfl (Pi9 (r:=5) rfl Tryz.runUnderlying24 Tryz.sizeOf38 rfl rfl rfl rowR_rd (by omega)) (L9 rfl (Pz9 (r:=5) rfl Tryz.isAgg38 Tryz.sizeOf38 rfl rfl rowR_rd rfl (by decide) (its_all hlt.1)) (Lc9 rfl rfl (by decide) (OpT_buildRows (r:=151) [itC (ins.getD x.1 it0)] rfl rfl Tryz.runUnderlying24 Tryz.sizeOf38 Tryz.zeroValue38 rfl (by decide) rfl (by decide) (by intro r hr; simp at hr; rw [hr]; rfl) rfl (fun v41=>(Lc9 rfl rfl (by decide) (Oa9 (r:=7) (r2:=151) rfl Tryz.underlying24 TI.hi38 TI.hz38 TI.hs38 TI.hby38 TI.hzs38 (by decide) rfl rfl rfl rfl (fun _ h=>rp9 h) (by rw [List.flatten_cons,List.flatten_nil,List.append_nil]; exact itC_one hq1) (by unfold maxLen; omega) (by omega) (fun v42=>?_)))))))))))
    refine Lt9 (P':=rowR itC 2 38 v42 (x.2.2++[(ins.getD x.1 it0)])) (r:=7) rfl (fun h hp=>row_it hp) ?_
    refine (G9 rfl rfl (N9 (X_block (X9 ?_))))
    refine R9 (M9 rfl rfl (L9 rfl (Pn9 rfl rfl rfl (run_add _ _ _ _ _ (by omega))) (G9 rfl rfl (N9 ?_))))
    exact Xr9 (x.1 + 1,v42,x.2.2++[(ins.getD x.1 it0)]) ⟨by dsimp only; omega,by dsimp only; rw [List.length_append,List.length_singleton]; omega,by dsimp only; rw [List.length_append,List.length_singleton]; omega,fun q hq=>(List.mem_append.1 hq).elim (hxm q) (fun h=>by rw [List.mem_singleton.1 h]; exact it_get hlt.1),hb35,(good_in hxt hlt.2 (tag_getD hlt.1)).1 hb35⟩ (by dsimp only; omega) (a9 rfl) (a9 rfl)
   ·
    have hb36:¬ buildE (x.2.2++[(ins.getD x.1 it0)])=0:=by have:=of_decide_eq_false hc35; omega
    refine K9 (X_block (X9 ?_))
    refine R9 (M9 rfl rfl (L9 rfl (Pn9 rfl rfl rfl (run_add _ _ _ _ _ (by omega))) (G9 rfl rfl (N9 ?_))))
    exact Xr9 (x.1 + 1,x.2.1,x.2.2) ⟨by dsimp only; omega,by dsimp only; omega,hx20,hxm,hxb,(good_in hxt hlt.2 (tag_getD hlt.1)).2 hb36⟩ (by dsimp only; omega) (a9 rfl) (a9 rfl)
 ·
  have hxe:x.2.2.map tagF=goodF fs:=good_end hit9 hxt hx (by simp only [Bool.and_eq_false_iff,decide_eq_false_iff_not] at hc18; omega)
  refine W_exit (X_then_exit (X_then_exit (X_block_exit (X9 ?_))))
  refine Q9 (R9 (M9 rfl rfl (G9 rfl rfl (N9 (X9 ?_)))))
  refine W_ret ?_
  refine X_turn (P':=datI x.2.2) 6 rfl (fun h hp=>dat_sub hp hxm) ?_
  refine X_join [7,6] 7 (itemsP x.2.1 x.2.2) rfl (by decide) (fun h hs=>hs) ?_
  exact Xq9 [7] (Ps:=[_]) (res1 Tryz.results14 rfl) rfl (by decide) ⟨x.2.2,hxb,hx20,fun q hq=>his q (hxm q hq),hxe,rfl⟩
theorem good_spec (v:Value) (fs:List FV) (F:HP) (hF:∀ h,F h→rdFV v fs h) (hN:∀ h,F h→datFV fs h):CallsS Tryz.prog 14 #[v] F [] (fun r Ps=>∃ xs:List F3,buildE xs=0∧xs.length≤20∧Short3 xs∧Ps=[itemsP r xs]) :=
  (good_spec9 v fs F hF hN).imp fun r Ps ⟨xs,h1,h2,h3,_,h4⟩=>⟨xs,h1,h2,h3,h4⟩
open Go.RowKit
set_option maxRecDepth 8000
theorem jn_few (p:List UInt8) (h:p.length≤200):(jn (splitN p).1.dropLast).length < 140737488355328:=by
  have h1:=splitN_len p
  have h2:=jn_short (ls:=(splitN p).1.dropLast) (c:=201) fun n hn=>by have:=splitN_mem (List.dropLast_subset _ hn); omega
  rw [List.length_dropLast] at h2
  have h3:((splitN p).1.length - 1) * 201≤200 * 201:=Nat.mul_le_mul_right 201 (by omega)
  omega
theorem part_eq {d:List UInt8} {i j:Nat}:(d.drop (min i d.length)).take (max (min d.length (i + j)) (min i d.length) - min i d.length)=(d.take (i + j)).drop i:=by
  by_cases h:i≤d.length
  · rw [Nat.min_eq_left h,Nat.max_eq_left (by omega),List.drop_take]
    by_cases h2:i + j≤d.length
    · rw [Nat.min_eq_right h2]
    · rw [Nat.min_eq_left (by omega),List.take_of_length_le (by rw [List.length_drop]; omega),List.take_of_length_le (by rw [List.length_drop]; omega)]
  · have e:min i d.length=d.length:=by omega
    rw [e,List.drop_of_length_le (l:=d) (Nat.le_refl _),List.drop_of_length_le (l:=d.take (i + j)) (by rw [List.length_take]; omega)]
    exact List.take_nil
theorem last_eq (ls:List (List UInt8)):(ls.drop 0).take (ls.length - 1 - 0)=ls.dropLast:=by rw [List.drop_zero,Nat.sub_zero,List.dropLast_eq_take]
theorem mem_next {lu:List (List UInt8)} {e:List UInt8} {k:Nat} (h:k < lu.length):decide (e ∈ lu.take (k + 1))=(decide (e ∈ lu.take k) || (lu.getD k [] == e)):=by
  have e1:lu.getD k []=lu[k]:=by simp [h]
  rw [List.take_succ_eq_append_getElem h,e1,Bool.eq_iff_iff,decide_eq_true_iff,List.mem_append,List.mem_singleton,Bool.or_eq_true,decide_eq_true_iff,beq_iff_eq]
  exact ⟨fun h2=>h2.imp id Eq.symm,fun h2=>h2.imp id Eq.symm⟩
set_option maxHeartbeats 2000000 in
theorem treeBack_spec (v:Value) (fs:List FV) (a c:Int) (F:HP) (hF:∀ h,F h→rdFV v fs h) (hN:∀ h,F h→datFV fs h) (hT:∀ h,F h→tabsP h):CallsS Tryz.prog 12 #[v,.int .i64 a,.int .i64 c] F [] (fun r Ps=>r = .bool true∧Ps=[]):=by
 refine callsS_enter Tryz.func12 rfl Tryz.ntmps12 (by simp) (fun E=>?_)
 refine Q9 (R9 (G9 rfl rfl (N9 (X9 (Q9 (Q9 (R9 (Lc9 rfl rfl (by decide) (Oc9 200 [0] [] rfl Tryz.call13 rfl rfl rfl (by decide) (by decide) (known10_spec _ (ts9 0 rfl hT)) (fun v28 Ps28 hR28=>?_))))))))))
 obtain ⟨rfl,rfl⟩:=hR28
 refine (L9 rfl (Pu_un rfl rfl (run_not _)) (N9 (X9 ?_)))
 refine W_false rfl (rfl) ?_
 refine K9 (X9 ?_)
 refine Q9 (R9 (M9 rfl rfl (Lc9 rfl rfl (by decide) (Oc9 300 [0] [] rfl Tryz.call14 rfl rfl rfl (by decide) (by decide) (good_spec v fs _ (rs9 0 rfl hF) (datFV_star 0 rfl hN)) (fun v31 Ps31 hR31=>?_)))))
 obtain ⟨xs,hxb,hxl,hxs,rfl⟩:=hR31
 skip
 refine (G9 rfl rfl (N9 (X9 ?_)))
 refine Q9 (Q9 (R9 (M9 rfl rfl (Lc9 rfl rfl (by decide) (Oc9 400 [0,300] [] rfl Tryz.call18 rfl rfl rfl (by decide) (by decide) (meets_spec v31 (.slice none 0 0) xs [] hxb build_none (by omega) (by decide) (short_big hxs) (fun x hx=>absurd hx (by simp)) _ (rs9 1 rfl (fun _ hp=>itP_rd hp)) (datI_star 1 rfl (fun _ hp=>itP_dat hp)) (fun h _=>rd_nil0) (fun h _ x hx=>absurd hx (by simp))) (fun v33 Ps33 hR33=>?_))))))
 obtain ⟨rfl,mm,rfl,hmm⟩:=hR33
 refine (N9 (X9 ?_))
 refine C9 rfl (fun hc33=>?_) (fun hc33=>?_)
 ·
  refine Q9 (R9 (G9 rfl rfl (N9 (X9 ?_))))
  refine W_ret (X_then_ret ?_)
  exact Xq9 [] (Ps:=[]) (res1 Tryz.results12 rfl) rfl (by decide) ⟨rfl,rfl⟩
 ·
  refine K9 (X9 ?_)
  refine Q9 (R9 (M9 rfl rfl (Lc9 rfl rfl (by decide) (Oc9 500 [0,300] [] rfl Tryz.call16 rfl rfl rfl (by decide) (by decide) (build_spec v31 xs (by omega) (short_big hxs) _ (rs9 1 rfl (fun _ hp=>itP_rd hp)) (datI_star 1 rfl (fun _ hp=>itP_dat hp)) (ts9 0 rfl hT)) (fun v36 Ps36 hR36=>?_)))))
  obtain ⟨w0,id,l0,rfl,rfl,hid,_,hgood⟩:=hR36
  refine WL_fact (r:=500) rfl (fun h hp=>treeP_one hp) (fun (hvo:w0.oneCell'=true)=>?_)
  rw [hxb]
  refine (M9 rfl rfl (L9 rfl (Pe9 rfl rfl rfl) (L9 rfl (Pe9 rfl rfl rfl) (Lc9 rfl rfl (by decide) (OpT_alloc (r:=501) (cs:=(treeC (.slice none 0 0) zeroId)) rfl (zero_run (by kernel_rfl:(Tryz.prog.info? 31).bind (·.zero)=some (.agg (treeC (.slice none 0 0) zeroId).toArray))) rfl (fun g501=>(Lc09 rfl rfl (OpT_storeAll (r:=501) rfl Tryz.sizeOf31 rfl rfl rfl (treeC_length zeroId_length) (treeC_length hid) (treeC_one hvo) ?_))))))))
  refine (G9 rfl rfl (N9 (X9 ?_)))
  refine Q9 (Q9 ?_)
  refine W_openTree 500 700 rfl (fun es hes=>?_)
  obtain ⟨Ta,hfa,hid2,hta⟩:=hgood hxb
  obtain ⟨hel,hdl⟩:=tree_small hfa hxb hxl hxs hta hes
  have hw3:=whole3 hxb hfa hta (hmm hc33).left
  have hsd:=built_sound hxb hw3 hta hes
  rw [← hes] at hw3 hsd
  subst hid2
  refine W_openItems 300 710 rfl ?_
  refine R9 (M9 rfl rfl (L9 rfl (Pn9 rfl rfl rfl (run_neq _ _ _ _ _ _)) (M9 rfl rfl (WL_gPT rfl rfl rfl rfl rfl (by decide) (Px9 (r:=501) rfl Tryz.isAgg31 Tryz.sizeOf31 rfl rfl (treeC_length hid) (load_all (treeC_length hid))) (WL_gT rfl rfl rfl rfl rfl (by decide) (Oc9 800 [0,501,700,701,710,711] [] rfl Tryz.call32 rfl rfl rfl (by decide) (by decide) (sound_spec es w0 (idT Ta) hid hel hdl _ (rs9 2 rfl (fun h hp=>by have h2:=rp9 hp; rw [List.length_map]; exact h2)) (ds9 3 rfl (fun _ h=>h)) (ts9 0 rfl hT)) (fun v43 Ps43 hR43=>?_)))))))
  obtain ⟨q43,rfl,hq43,rfl⟩:=hR43
  obtain rfl:q43=true:=hq43.2 hsd
  refine (WL_gPT rfl rfl rfl rfl rfl (by decide) (Pu_un rfl rfl (run_not _)) (L9 rfl (Pu_pickF rfl rfl rfl rfl) (N9 (X9 ?_))))
  refine W_false rfl (rfl) ?_
  refine K9 (X9 ?_)
  refine Q9 (Q9 (R9 (G9 rfl rfl (N9 (X9 ?_)))))
  refine W_block ?_
  refine W_loop (α:=Nat) (fun x=>[(1,.int .i64 a),(2,.int .i64 c),(7,v31),(8,.pointer (some ⟨g501,0,none⟩)),(10,.int .i64 (x:Int))]) (fun x=>[(0,F),(700,rowP 59 35 w0 (es).length (recC bvC ((es).map (fun p:EB=>p.1)))),(701,datE es),(710,rowR itC 2 38 v31 xs),(711,datI xs),(501,blk g501 31 (treeC w0 (idT Ta)))]) (fun x=>x≤xs.length) (fun x=>xs.length - x) (0) (Nat.zero_le _) (a9 rfl) (a9 rfl) (fun x hx=>?_)
  refine Q9 (Q9 (R9 (M9 rfl rfl (M9 rfl rfl (L9 rfl (Pl9 (r:=710) rfl Tryz.runUnderlying24 rfl rfl rowR_rd) (L9 rfl (Pn9 rfl rfl rfl (run_lss _ _ _ _ _ _)) (N9 (X9 ?_))))))))
  refine C9 rfl (fun hc49=>?_) (fun hc49=>?_)
  ·
   have hlt:x < xs.length:=by have:=of_decide_eq_true hc49; omega
   have hxm:=it_get hlt
   have hxq:=hxs _ hxm
   obtain ⟨p,hp⟩:∃ p,p=(xs.getD x it0).1:=⟨_,rfl⟩
   obtain ⟨d,hd⟩:∃ d,d=(xs.getD x it0).2.2:=⟨_,rfl⟩
   obtain ⟨dv,hdv⟩:∃ dv,dv=(xs.getD x it0).2.1:=⟨_,rfl⟩
   obtain ⟨ls,hls⟩:∃ ls,ls=(splitN p).1:=⟨_,rfl⟩
   have hpl:p.length≤200:=by rw [hp]; exact hxq.1
   have hdl3:d.length≤1000:=by rw [hd]; exact file_short hw3 hxb hxs hxm
   have hg0:(recC itC xs)[x * 2 + 0]?=some (sV p):=(its_get (k:=x) (j:=0) hlt (by decide)).trans (by rw [hp]; rfl)
   have hg1:(recC itC xs)[x * 2 + 1]?=some dv:=(its_get (k:=x) (j:=1) hlt (by decide)).trans (by rw [hdv]; rfl)
   have hdat:∀ h,datI xs h→rdB dv d h:=fun h hp2=>by rw [hdv,hd]; exact hp2 _ hxm
   have hfi:pathV (viewT (es.map toTB)) (idT Ta) p=(ndF 1 d,0):=by rw [hp,hd]; exact (path_file hw3 hxb hxs hxm).2
   have hrw:readV (viewT (es.map toTB)) (idT Ta) p 0 1099511627776=(d,0):=by rw [hp,hd]; exact read_whole hw3 hxb hxs hxm
   have hrp:∀ i j:Nat,readV (viewT (es.map toTB)) (idT Ta) p (i:Int) (j:Int)=((d.take (i + j)).drop i,0):=fun i j=>by rw [hp,hd]; exact read_part hw3 hxb hxs hxm i j
   have hup:=list_up hw3 hxb hxs hxm
   rw [show pathOf (xs.getD x it0)=ls from by rw [hls,hp]; rfl] at hup
   obtain ⟨lu,hlu,hlm,hll,hjl,hq0,hq2⟩:=hup
   refine K9 (X9 ?_)
   refine Q9 ?_
   refine W_block ?_
   refine Q9 (R9 (M9 rfl rfl (M9 rfl rfl (L9 rfl (Pi9 (r:=710) rfl Tryz.runUnderlying24 Tryz.sizeOf38 rfl rfl rfl rowR_rd (by omega)) (L9 rfl (Pu_fieldAddrE (off:=1) rfl rfl (by kernel_rfl)) (L9 rfl (Py9 (r:=710) rfl Tryz.isAgg36 rfl rfl rowR_rd hg1) (G9 rfl rfl (N9 (X9 ?_)))))))))
   refine W_cut (α:=Nat) (fun z=>[(1,.int .i64 a),(2,.int .i64 c),(7,v31),(8,.pointer (some ⟨g501,0,none⟩)),(10,.int .i64 (x:Int)),(11,dv),(12,.pointer (some ⟨z,0,none⟩)),(13,.int .i64 0)]) (fun z=>[(0,F),(700,rowP 59 35 w0 (es).length (recC bvC ((es).map (fun p:EB=>p.1)))),(701,datE es),(710,rowR itC 2 38 v31 xs),(711,datI xs),(501,blk g501 31 (treeC w0 (idT Ta))),(370,blk z 42 (ndC (ndF 1 d)))]) (fun z=>True) ?_ (fun z _hz=>?_)
   ·
    refine W_draw (N:=13) (by kernel_rfl) rfl [(0,_),(501,_),(710,_)] ⟨rfl,rfl,rfl,trivial⟩ ?_
    refine (T9 0 rfl rfl (Px9 (r:=501) rfl Tryz.isAgg31 Tryz.sizeOf31 rfl rfl (treeC_length hid) (load_all (treeC_length hid))) (T9 1 rfl rfl (Pm9 rfl rfl) (T9 2 rfl rfl (Pm9 rfl rfl) (T9 3 rfl rfl (Pi9 (r:=710) rfl Tryz.runUnderlying24 Tryz.sizeOf38 rfl rfl rfl rowR_rd (by omega)) (T9 4 rfl rfl (Pu_fieldAddrE (off:=0) rfl rfl (by kernel_rfl)) (T9 5 rfl rfl (Py9 (r:=710) rfl Tryz.isAgg9 rfl rfl rowR_rd hg0) (Y9 [6,10] ?_)))))))
    refine Z9 rfl rfl (Oc9 900 [0,501,700,701,710,711] [] rfl Tryz.call19 rfl rfl rfl (by decide) (by decide) (find_spec es w0 (idT Ta) hid hel hdl _ (rs9 2 rfl (fun h hp=>by have h2:=rp9 hp; rw [List.length_map]; exact h2)) (ds9 3 rfl (fun _ h=>h)) (ts9 0 rfl hT) p (by omega)) (fun v64 Ps64 hR64=>?_)) ?_
    ·
     obtain ⟨rfl,rfl⟩:=hR64
     refine ⟨⟨rfl,rfl,rfl,trivial⟩,?_⟩
     rw [hfi]
     refine (T9 7 rfl rfl (Pm9 rfl rfl) (T9 8 rfl rfl (Pe9 rfl rfl rfl) (T9 9 rfl rfl (Pe9 rfl rfl rfl) (Y9 [10] ?_))))
     refine Z9 rfl rfl (OpT_alloc (r:=901) (cs:=(nodeC 0 0 0 zeroId)) rfl (zero_run (by kernel_rfl:(Tryz.prog.info? 42).bind (·.zero)=some (.agg (nodeC 0 0 0 zeroId).toArray))) rfl (fun g901=>⟨⟨rfl,rfl,rfl,trivial⟩,?_⟩)) ?_
     ·
      refine (Y9 [11] ?_)
      refine Ac09 rfl rfl rfl (OpT_storeAll (r:=901) rfl Tryz.sizeOf42 rfl rfl rfl (nodeC_length zeroId_length) (ndC_length (topF_length _)) (one_node _ _ _ _) ?_) ?_
      ·
       refine ⟨⟨rfl,rfl,rfl,trivial⟩,?_⟩
       refine (T9 12 rfl rfl (Pg9 rfl rfl) (Ad9 (by kernel_rfl) ?_))
       refine X_ren 901 370 rfl ?_
       exact X_cut g901 trivial (a9 rfl) (a9 rfl)
      exact An9
     exact An9
    refine Z9 rfl rfl (OpT_alloc (r:=801) (cs:=(nodeC 0 0 0 zeroId)) rfl (zero_run (by kernel_rfl:(Tryz.prog.info? 42).bind (·.zero)=some (.agg (nodeC 0 0 0 zeroId).toArray))) rfl (fun g801=>⟨⟨rfl,rfl,rfl,trivial⟩,?_⟩)) ?_
    ·
     refine (Y9 [6] ?_)
     refine Z9 rfl rfl (Oc9 900 [0,501,700,701,710,711,801] [] rfl Tryz.call19 rfl rfl rfl (by decide) (by decide) (find_spec es w0 (idT Ta) hid hel hdl _ (rs9 2 rfl (fun h hp=>by have h2:=rp9 hp; rw [List.length_map]; exact h2)) (ds9 3 rfl (fun _ h=>h)) (ts9 0 rfl hT) p (by omega)) (fun v64 Ps64 hR64=>?_)) ?_
     ·
      obtain ⟨rfl,rfl⟩:=hR64
      refine ⟨⟨rfl,rfl,rfl,trivial⟩,?_⟩
      rw [hfi]
      refine (T9 7 rfl rfl (Pm9 rfl rfl) (T9 8 rfl rfl (Pe9 rfl rfl rfl) (T9 9 rfl rfl (Pe9 rfl rfl rfl) (Y9 [11] ?_))))
      refine Ac09 rfl rfl rfl (OpT_storeAll (r:=801) rfl Tryz.sizeOf42 rfl rfl rfl (nodeC_length zeroId_length) (ndC_length (topF_length _)) (one_node _ _ _ _) ?_) ?_
      ·
       refine ⟨⟨rfl,rfl,rfl,trivial⟩,?_⟩
       refine (T9 12 rfl rfl (Pg9 rfl rfl) (Ad9 (by kernel_rfl) ?_))
       refine X_ren 801 370 rfl ?_
       exact X_cut g801 trivial (a9 rfl) (a9 rfl)
      exact An9
     exact An9
    exact An9
   ·
    refine Q9 ?_
    refine W_draw (N:=12) (by kernel_rfl) rfl [(0,_),(370,_),(501,_),(710,_)] ⟨rfl,rfl,rfl,rfl,trivial⟩ ?_
    refine (T9 0 rfl rfl (Px9 (r:=501) rfl Tryz.isAgg31 Tryz.sizeOf31 rfl rfl (treeC_length hid) (load_all (treeC_length hid))) (T9 1 rfl rfl (Pm9 rfl rfl) (T9 2 rfl rfl (Pm9 rfl rfl) (T9 3 rfl rfl (Pi9 (r:=710) rfl Tryz.runUnderlying24 Tryz.sizeOf38 rfl rfl rfl rowR_rd (by omega)) (T9 4 rfl rfl (Pu_fieldAddrE (off:=0) rfl rfl (by kernel_rfl)) (T9 5 rfl rfl (Py9 (r:=710) rfl Tryz.isAgg9 rfl rfl rowR_rd hg0) (Y9 [6] ?_)))))))
    refine Z9 rfl rfl (Oc9 900 [0,370,501,700,701,710,711] [] rfl Tryz.call31 rfl rfl rfl (by decide) (by decide) (read_spec es w0 (idT Ta) hid hel hdl _ (rs9 3 rfl (fun h hp=>by have h2:=rp9 hp; rw [List.length_map]; exact h2)) (ds9 4 rfl (fun _ h=>h)) (ts9 0 rfl hT) p (by omega) 0 1099511627776) (fun v74 Ps74 hR74=>?_)) ?_
    ·
     obtain ⟨w74,rfl,rfl⟩:=hR74
     refine ⟨⟨rfl,rfl,rfl,rfl,trivial⟩,?_⟩
     rw [hrw]
     refine (T9 7 rfl rfl (Pm9 rfl rfl) (T9 8 rfl rfl (Pe9 rfl rfl rfl) (T9 9 rfl rfl (Pe9 rfl rfl rfl) (T9 10 rfl rfl (Pg9 rfl rfl) (T9 11 rfl rfl (Pg9 rfl rfl) (Ad9 (by kernel_rfl) (X9 ?_)))))))
     refine Q9 (R9 (M9 rfl rfl (M9 rfl rfl (L9 rfl (Pl9 (r:=711) rfl Tryz.runUnderlying36 rfl rfl hdat) (L9 rfl (Pn9 rfl rfl rfl (run_add _ _ _ _ _ (by omega))) (Lc9 rfl rfl (by decide) (Oc9 1000 [0,370,501,700,701,710,711,900] [] rfl Tryz.call15 rfl rfl rfl (by decide) (by decide) (within_spec a (((d.length:Nat):Int) + 2) (by omega) (by omega) _) (fun v81 Ps81 hR81=>?_))))))))
     obtain ⟨rfl,rfl⟩:=hR81
     obtain ⟨i,hi,hi2⟩:∃ i:Nat,a % (((d.length:Nat):Int) + 2)=(i:Int)∧i < d.length + 2:=⟨(a % (((d.length:Nat):Int) + 2)).toNat,by have:=Int.emod_nonneg a (show ((d.length:Nat):Int) + 2≠0 by omega); omega,by have h1:=Int.emod_nonneg a (show ((d.length:Nat):Int) + 2≠0 by omega); have h2:=Int.emod_lt_of_pos a (show (0:Int) < ((d.length:Nat):Int) + 2 by omega); omega⟩
     rw [hi]
     refine (G9 rfl rfl (N9 (X9 ?_)))
     refine Q9 (R9 (M9 rfl rfl (L9 rfl (Pl9 (r:=711) rfl Tryz.runUnderlying36 rfl rfl hdat) (M9 rfl rfl (M9 rfl rfl (Lc9 rfl rfl (by decide) (Oc9 1100 [0,370,501,700,701,710,711,900] [] rfl Tryz.call15 rfl rfl rfl (by decide) (by decide) (within_spec c 200 (by omega) (by omega) _) (fun v86 Ps86 hR86=>?_))))))))
     obtain ⟨rfl,rfl⟩:=hR86
     obtain ⟨j,hj,hj2⟩:∃ j:Nat,c % 200=(j:Int)∧j < 200:=⟨(c % 200).toNat,by omega,by omega⟩
     rw [hj]
     refine (L9 rfl (Pn9 rfl rfl rfl (run_add _ _ _ _ _ (by omega))) ?_)
     rw [show (i:Int) + (j:Int)=((i + j:Nat):Int) by omega]
     refine (L9 rfl (Pu_min rfl rfl rfl) ?_)
     rw [show min ((d.length:Nat):Int) ((i + j:Nat):Int)=((min d.length (i + j):Nat):Int) by omega]
     refine (G9 rfl rfl (N9 (X9 ?_)))
     refine Q9 ?_
     refine W_draw (N:=15) (by kernel_rfl) rfl [(0,_),(370,_),(501,_),(710,_)] ⟨rfl,rfl,rfl,rfl,trivial⟩ ?_
     refine (T9 0 rfl rfl (Px9 (r:=501) rfl Tryz.isAgg31 Tryz.sizeOf31 rfl rfl (treeC_length hid) (load_all (treeC_length hid))) (T9 1 rfl rfl (Pm9 rfl rfl) (T9 2 rfl rfl (Pm9 rfl rfl) (T9 3 rfl rfl (Pi9 (r:=710) rfl Tryz.runUnderlying24 Tryz.sizeOf38 rfl rfl rfl rowR_rd (by omega)) (T9 4 rfl rfl (Pu_fieldAddrE (off:=0) rfl rfl (by kernel_rfl)) (T9 5 rfl rfl (Py9 (r:=710) rfl Tryz.isAgg9 rfl rfl rowR_rd hg0) (T9 6 rfl rfl (Pm9 rfl rfl) (T9 7 rfl rfl (Pm9 rfl rfl) (Y9 [8] ?_)))))))))
     refine Z9 rfl rfl (Oc9 1200 [0,370,501,700,701,710,711,900] [] rfl Tryz.call15 rfl rfl rfl (by decide) (by decide) (within_spec c 200 (by omega) (by omega) _) (fun v98 Ps98 hR98=>?_)) ?_
     ·
      obtain ⟨rfl,rfl⟩:=hR98
      refine ⟨⟨rfl,rfl,rfl,rfl,trivial⟩,?_⟩
      rw [hj]
      refine (Y9 [9] ?_)
      refine Z9 rfl rfl (Oc9 1300 [0,370,501,700,701,710,711,900] [] rfl Tryz.call31 rfl rfl rfl (by decide) (by decide) (read_spec es w0 (idT Ta) hid hel hdl _ (rs9 3 rfl (fun h hp=>by have h2:=rp9 hp; rw [List.length_map]; exact h2)) (ds9 4 rfl (fun _ h=>h)) (ts9 0 rfl hT) p (by omega) (i:Int) (j:Int)) (fun v99 Ps99 hR99=>?_)) ?_
      ·
       obtain ⟨w99,rfl,rfl⟩:=hR99
       refine ⟨⟨rfl,rfl,rfl,rfl,trivial⟩,?_⟩
       rw [hrp i j]
       refine (T9 10 rfl rfl (Pm9 rfl rfl) (T9 11 rfl rfl (Pe9 rfl rfl rfl) (T9 12 rfl rfl (Pe9 rfl rfl rfl) (T9 13 rfl rfl (Pg9 rfl rfl) (T9 14 rfl rfl (Pg9 rfl rfl) (Ad9 (by kernel_rfl) (X9 ?_)))))))
       refine Q9 (Q9 ?_)
       have hz14:(!decide ((ndF 1 d).2.1=((d.length:Nat):Int)))=false:=by rw [decide_eq_true (show (ndF 1 d).2.1=((d.length:Nat):Int) from rfl)]; rfl
       have hz25:(!(d == d))=false:=by simp
       refine W_draw (N:=47) (by kernel_rfl) rfl [(0,_),(370,_),(501,_),(711,_),(900,_),(1300,_)] ⟨rfl,rfl,rfl,rfl,rfl,rfl,trivial⟩ ?_
       refine (T9 0 rfl rfl (Pm9 rfl rfl) (T9 1 rfl rfl (Pn9 rfl rfl rfl (run_neq _ _ _ _ _ _)) (T9 2 rfl rfl (Pm9 rfl rfl) (AH_takeT 3 rfl (by kernel_rfl) (by kernel_rfl) (by kernel_rfl) rfl rfl rfl rfl rfl (by decide) (F9 0 rfl rfl) (AH_takeT 4 rfl (by kernel_rfl) (by kernel_rfl) (by kernel_rfl) rfl rfl rfl rfl rfl (by decide) (Pb9 (r:=370) rfl Tryz.isAgg3 rfl rfl rfl) (AH_takeT 5 rfl (by kernel_rfl) (by kernel_rfl) (by kernel_rfl) rfl rfl rfl rfl rfl (by decide) (Pn9 rfl rfl rfl (run_neq _ _ _ _ _ _)) (T9 6 rfl rfl (Pu_pickF rfl rfl rfl rfl) (T9 7 rfl rfl (Pm9 rfl rfl) (AH_takeT 8 rfl (by kernel_rfl) (by kernel_rfl) (by kernel_rfl) rfl rfl rfl rfl rfl (by decide) (F9 1 rfl rfl) (AH_takeT 9 rfl (by kernel_rfl) (by kernel_rfl) (by kernel_rfl) rfl rfl rfl rfl rfl (by decide) (Pb9 (r:=370) rfl Tryz.isAgg3 rfl rfl rfl) (AH_takeT 10 rfl (by kernel_rfl) (by kernel_rfl) (by kernel_rfl) rfl rfl rfl rfl rfl (by decide) (Pm9 rfl rfl) (AH_takeT 11 rfl (by kernel_rfl) (by kernel_rfl) (by kernel_rfl) rfl rfl rfl rfl rfl (by decide) (Pl9 (r:=711) rfl Tryz.runUnderlying36 rfl rfl hdat) (AH_takeT 12 rfl (by kernel_rfl) (by kernel_rfl) (by kernel_rfl) rfl rfl rfl rfl rfl (by decide) (Pn9 rfl rfl rfl (run_neq _ _ _ _ _ _)) (T9 13 rfl rfl (Pu_pickF rfl rfl rfl rfl) (T9 14 rfl rfl (Pm9 rfl rfl) (AH_takeT 15 rfl (by kernel_rfl) (by kernel_rfl) (by kernel_rfl) rfl rfl rfl (by rw [hz14]; rfl) rfl (by decide) (Pm9 rfl rfl) (AH_takeT 16 rfl (by kernel_rfl) (by kernel_rfl) (by kernel_rfl) rfl rfl rfl (by rw [hz14]; rfl) rfl (by decide) (Pn9 rfl rfl rfl (run_neq _ _ _ _ _ _)) (T9 17 rfl rfl (Pu_pickF rfl rfl hz14 rfl) (T9 18 rfl rfl (Pm9 rfl rfl) (AH_takeT 19 rfl (by kernel_rfl) (by kernel_rfl) (by kernel_rfl) rfl rfl rfl rfl rfl (by decide) (Pm9 rfl rfl) (AH_takeT 20 rfl (by kernel_rfl) (by kernel_rfl) (by kernel_rfl) rfl rfl rfl rfl rfl (by decide) (Pu_convBS (r:=900) rfl Tryz.underlying36 Tryz.underlying5 Tryz.underlying9 rfl rfl rowB_rd) (AH_takeT 21 rfl (by kernel_rfl) (by kernel_rfl) (by kernel_rfl) rfl rfl rfl rfl rfl (by decide) (Pm9 rfl rfl) (AH_takeT 22 rfl (by kernel_rfl) (by kernel_rfl) (by kernel_rfl) rfl rfl rfl rfl rfl (by decide) (Pu_convBS (r:=711) rfl Tryz.underlying36 Tryz.underlying5 Tryz.underlying9 rfl rfl hdat) (AH_takeT 23 rfl (by kernel_rfl) (by kernel_rfl) (by kernel_rfl) rfl rfl rfl rfl rfl (by decide) (Pn9 rfl rfl rfl (run_strNe _ _ _ _ _)) (T9 24 rfl rfl (Pu_pickF rfl rfl rfl rfl) (T9 25 rfl rfl (Pm9 rfl rfl) (AH_takeT 26 rfl (by kernel_rfl) (by kernel_rfl) (by kernel_rfl) rfl rfl rfl (by rw [hz25]; rfl) rfl (by decide) (Pm9 rfl rfl) (AH_takeT 27 rfl (by kernel_rfl) (by kernel_rfl) (by kernel_rfl) rfl rfl rfl (by rw [hz25]; rfl) rfl (by decide) (Pn9 rfl rfl rfl (run_neq _ _ _ _ _ _)) (T9 28 rfl rfl (Pu_pickF rfl rfl hz25 rfl) (T9 29 rfl rfl (Pm9 rfl rfl) (AH_takeT 30 rfl (by kernel_rfl) (by kernel_rfl) (by kernel_rfl) rfl rfl rfl rfl rfl (by decide) (Pm9 rfl rfl) (AH_takeT 31 rfl (by kernel_rfl) (by kernel_rfl) (by kernel_rfl) rfl rfl rfl rfl rfl (by decide) (Pu_convBS (r:=1300) rfl Tryz.underlying36 Tryz.underlying5 Tryz.underlying9 rfl rfl rowB_rd) (AH_takeT 32 rfl (by kernel_rfl) (by kernel_rfl) (by kernel_rfl) rfl rfl rfl rfl rfl (by decide) (Pm9 rfl rfl) (AH_takeT 33 rfl (by kernel_rfl) (by kernel_rfl) (by kernel_rfl) rfl rfl rfl rfl rfl (by decide) (Pm9 rfl rfl) (AH_takeT 34 rfl (by kernel_rfl) (by kernel_rfl) (by kernel_rfl) rfl rfl rfl rfl rfl (by decide) (Pm9 rfl rfl) (AH_takeT 35 rfl (by kernel_rfl) (by kernel_rfl) (by kernel_rfl) rfl rfl rfl rfl rfl (by decide) (Pl9 (r:=711) rfl Tryz.runUnderlying36 rfl rfl hdat) (AH_takeT 36 rfl (by kernel_rfl) (by kernel_rfl) (by kernel_rfl) rfl rfl rfl rfl rfl (by decide) (Pu_min rfl rfl rfl) ?_)))))))))))))))))))))))))))))))))))))
       rw [show min (i:Int) ((d.length:Nat):Int)=((min i d.length:Nat):Int) by omega]
       refine (AH_takeT 37 rfl (by kernel_rfl) (by kernel_rfl) (by kernel_rfl) rfl rfl rfl rfl rfl (by decide) (Pm9 rfl rfl) (AH_takeT 38 rfl (by kernel_rfl) (by kernel_rfl) (by kernel_rfl) rfl rfl rfl rfl rfl (by decide) (Pm9 rfl rfl) (AH_takeT 39 rfl (by kernel_rfl) (by kernel_rfl) (by kernel_rfl) rfl rfl rfl rfl rfl (by decide) (Pm9 rfl rfl) (AH_takeT 40 rfl (by kernel_rfl) (by kernel_rfl) (by kernel_rfl) rfl rfl rfl rfl rfl (by decide) (Pl9 (r:=711) rfl Tryz.runUnderlying36 rfl rfl hdat) (AH_takeT 41 rfl (by kernel_rfl) (by kernel_rfl) (by kernel_rfl) rfl rfl rfl rfl rfl (by decide) (Pu_min rfl rfl rfl) ?_)))))
       rw [show min (i:Int) ((d.length:Nat):Int)=((min i d.length:Nat):Int) by omega]
       refine (AH_takeT 42 rfl (by kernel_rfl) (by kernel_rfl) (by kernel_rfl) rfl rfl rfl rfl rfl (by decide) (Pu_max rfl rfl rfl) ?_)
       rw [show max ((min d.length (i + j):Nat):Int) ((min i d.length:Nat):Int)=((max (min d.length (i + j)) (min i d.length):Nat):Int) by omega]
       refine (AH_takeT 43 rfl (by kernel_rfl) (by kernel_rfl) (by kernel_rfl) rfl rfl rfl rfl rfl (by decide) (Pu_slice (r:=711) (a:=(min i d.length)) (b:=(max (min d.length (i + j)) (min i d.length))) rfl Tryz.runUnderlying36 Tryz.sizeOf5 rfl rfl hdat (.inr ⟨_,_,_,rfl,rfl,rfl⟩) (.inr ⟨_,_,_,rfl,rfl,rfl⟩) (by omega) (by omega)) (AH_takeT 44 rfl (by kernel_rfl) (by kernel_rfl) (by kernel_rfl) rfl rfl rfl rfl rfl (by decide) (Pu_convBS (r:=711) rfl Tryz.underlying36 Tryz.underlying5 Tryz.underlying9 rfl rfl (fun h hp=>rdB_subE (hdat h hp) (by omega) (by omega) part_eq)) (AH_takeT 45 rfl (by kernel_rfl) (by kernel_rfl) (by kernel_rfl) rfl rfl rfl rfl rfl (by decide) (Pn9 rfl rfl rfl (run_strNe _ _ _ _ _)) (T9 46 rfl rfl (Pu_pickF rfl rfl rfl rfl) (Ad9 (by kernel_rfl) (X9 ?_))))))
       refine W_false rfl ((by simp)) ?_
       refine K9 (X9 ?_)
       refine Q9 (R9 (M9 rfl rfl (M9 rfl rfl (L9 rfl (Pi9 (r:=710) rfl Tryz.runUnderlying24 Tryz.sizeOf38 rfl rfl rfl rowR_rd (by omega)) (L9 rfl (Pu_fieldAddrE (off:=0) rfl rfl (by kernel_rfl)) (L9 rfl (Py9 (r:=710) rfl Tryz.isAgg9 rfl rfl rowR_rd hg0) (Lc9 rfl rfl (by decide) (Oc9 1400 [0,370,501,700,701,710,711,900,1300] [] rfl Tryz.call33 rfl rfl rfl (by decide) (by decide) (split_rspec p (by omega) _) (fun v155 Ps155 hR155=>?_)))))))))
       obtain ⟨v155,rfl,rfl⟩:=hR155
       rw [← hls]
       refine (M9 rfl rfl (L9 rfl (Pe9 rfl rfl rfl) (L9 rfl (Pe9 rfl rfl rfl) (G9 rfl rfl (G9 rfl rfl (N9 (X9 ?_)))))))
       refine Q9 ?_
       have hjn:(jn ls.dropLast).length < 140737488355328:=by rw [hls]; exact jn_few p hpl
       refine R9 (M9 rfl rfl (M9 rfl rfl (L9 rfl (Pl9 (r:=1400) rfl Tryz.runUnderlying63 rfl rfl rowS_rd) (L9 rfl (Pn9 rfl rfl rfl (run_sub _ _ _ _ _ (by omega))) ?_))))
       rw [show ((ls.length:Nat):Int) - 1=((ls.length - 1:Nat):Int) by omega]
       refine (L9 rfl (Pu_slice (r:=1400) (b:=(ls.length - 1)) rfl Tryz.runUnderlying63 Tryz.sizeOf9 rfl rfl rowS_rd (.inl ⟨rfl,rfl⟩) (.inr ⟨_,_,_,rfl,rfl,rfl⟩) (Nat.zero_le _) (by omega)) (Lc9 rfl rfl (by decide) (Oc9 1500 [0,370,501,700,701,710,711,900,1300,1400] [] rfl Tryz.call27 rfl rfl rfl (by decide) (by decide) (join_rspec _ ls.dropLast hjn _ (rs9 9 rfl (fun h hp=>rdS_sub (rowS_rd h hp) (Nat.zero_le _) (by omega) (last_eq ls)))) (fun v164 Ps164 hR164=>?_))))
       obtain ⟨rfl,rfl⟩:=hR164
       refine (M9 rfl rfl (L9 rfl (Pe9 rfl rfl rfl) (L9 rfl (Pe9 rfl rfl rfl) (G9 rfl rfl (G9 rfl rfl (N9 (X9 ?_)))))))
       refine Q9 (R9 (L9 rfl (Px9 (r:=501) rfl Tryz.isAgg31 Tryz.sizeOf31 rfl rfl (treeC_length hid) (load_all (treeC_length hid))) (M9 rfl rfl (Lc9 rfl rfl (by decide) (Oc9 1600 [0,370,501,700,701,710,711,900,1300,1400] [] rfl Tryz.call30 rfl rfl rfl (by decide) (by decide) (list_spec es w0 (idT Ta) hid hel hdl _ (rs9 3 rfl (fun h hp=>by have h2:=rp9 hp; rw [List.length_map]; exact h2)) (ds9 4 rfl (fun _ h=>h)) (ts9 0 rfl hT) (joinN ls.dropLast).1 (by omega)) (fun v170 Ps170 hR170=>?_))))))
       obtain ⟨w170,rfl,rfl⟩:=hR170
       rw [hlu]
       refine (M9 rfl rfl (L9 rfl (Pe9 rfl rfl rfl) (L9 rfl (Pe9 rfl rfl rfl) (G9 rfl rfl (G9 rfl rfl (N9 (X9 ?_)))))))
       refine Q9 (R9 (G9 rfl rfl (N9 (X9 (Q9 (Q9 (R9 (G9 rfl rfl (N9 (X9 ?_))))))))))
       refine W_block ?_
       obtain ⟨en,hen⟩:∃ en,en=(ls.getD (ls.length - 1) []):=⟨_,rfl⟩
       rw [← hen] at hlm
       refine W_loop (α:=Nat) (fun y=>[(1,.int .i64 a),(2,.int .i64 c),(7,v31),(8,.pointer (some ⟨g501,0,none⟩)),(10,.int .i64 (x:Int)),(20,v155),(24,w170),(25,.int .i64 0),(26,.bool (decide (en ∈ lu.take y))),(27,.int .i64 (y:Int))]) (fun y=>[(0,F),(700,rowP 59 35 w0 (es).length (recC bvC ((es).map (fun p:EB=>p.1)))),(701,datE es),(710,rowR itC 2 38 v31 xs),(711,datI xs),(501,blk g501 31 (treeC w0 (idT Ta))),(1400,rowS 9 v155 ls),(1600,rowS 9 w170 lu)]) (fun y=>y≤lu.length) (fun y=>lu.length - y) (0) (Nat.zero_le _) (a9 rfl) (a9 rfl) (fun y hy=>?_)
       refine Q9 (Q9 (R9 (M9 rfl rfl (M9 rfl rfl (L9 rfl (Pl9 (r:=1600) rfl Tryz.runUnderlying63 rfl rfl rowS_rd) (L9 rfl (Pn9 rfl rfl rfl (run_lss _ _ _ _ _ _)) (N9 (X9 ?_))))))))
       refine C9 rfl (fun hc176=>?_) (fun hc176=>?_)
       ·
        have hlt2:y < lu.length:=by have:=of_decide_eq_true hc176; omega
        have hgn:(ss ls)[ls.length - 1]?=some (sV en):=by rw [hen]; exact ss_at (k:=ls.length - 1) (by omega)
        refine K9 (X9 ?_)
        refine Q9 ?_
        refine W_block ?_
        rcases Bool.eq_false_or_eq_true (decide (en ∈ lu.take y)) with hsp27 | hsp27
        ·
         refine W_draw (N:=15) (by kernel_rfl) rfl [(0,_),(501,_),(1400,_),(1600,_)] ⟨rfl,rfl,rfl,rfl,trivial⟩ ?_
         refine (T9 0 rfl rfl (Pm9 rfl rfl) (T9 1 rfl rfl (Pm9 rfl rfl) (AH_takeF 2 rfl (by kernel_rfl) (by kernel_rfl) (by kernel_rfl) rfl rfl rfl (by rw [hsp27]; rfl) rfl (by decide) (AH_takeF 3 rfl (by kernel_rfl) (by kernel_rfl) (by kernel_rfl) rfl rfl rfl (by rw [hsp27]; rfl) rfl (by decide) (AH_takeF 4 rfl (by kernel_rfl) (by kernel_rfl) (by kernel_rfl) rfl rfl rfl (by rw [hsp27]; rfl) rfl (by decide) (AH_takeF 5 rfl (by kernel_rfl) (by kernel_rfl) (by kernel_rfl) rfl rfl rfl (by rw [hsp27]; rfl) rfl (by decide) (AH_takeF 6 rfl (by kernel_rfl) (by kernel_rfl) (by kernel_rfl) rfl rfl rfl (by rw [hsp27]; rfl) rfl (by decide) (AH_takeF 7 rfl (by kernel_rfl) (by kernel_rfl) (by kernel_rfl) rfl rfl rfl (by rw [hsp27]; rfl) rfl (by decide) (AH_takeF 8 rfl (by kernel_rfl) (by kernel_rfl) (by kernel_rfl) rfl rfl rfl (by rw [hsp27]; rfl) rfl (by decide) (AH_takeF 9 rfl (by kernel_rfl) (by kernel_rfl) (by kernel_rfl) rfl rfl rfl (by rw [hsp27]; rfl) rfl (by decide) (AH_takeF 10 rfl (by kernel_rfl) (by kernel_rfl) (by kernel_rfl) rfl rfl rfl (by rw [hsp27]; rfl) rfl (by decide) (AH_takeF 11 rfl (by kernel_rfl) (by kernel_rfl) (by kernel_rfl) rfl rfl rfl (by rw [hsp27]; rfl) rfl (by decide) (AH_takeF 12 rfl (by kernel_rfl) (by kernel_rfl) (by kernel_rfl) rfl rfl rfl (by rw [hsp27]; rfl) rfl (by decide) (T9 13 rfl rfl (Pu_pickT rfl rfl hsp27 rfl) (T9 14 rfl rfl (Pg9 rfl rfl) (Ad9 (by kernel_rfl) (X_block (X9 ?_))))))))))))))))))
         refine R9 (M9 rfl rfl (L9 rfl (Pn9 rfl rfl rfl (run_add _ _ _ _ _ (by omega))) (G9 rfl rfl (N9 ?_))))
         exact Xr9 (y + 1) (by omega) (by omega) ⟨rfl,rfl,rfl,rfl,rfl,rfl,rfl,rfl,lookV_eq rfl (congrArg Value.bool (by rw [mem_next hlt2,hsp27]; rfl)),rfl,trivial⟩ ⟨rfl,rfl,rfl,rfl,rfl,rfl,rfl,rfl,trivial⟩
        ·
         refine W_draw (N:=15) (by kernel_rfl) rfl [(0,_),(501,_),(1400,_),(1600,_)] ⟨rfl,rfl,rfl,rfl,trivial⟩ ?_
         refine (T9 0 rfl rfl (Pm9 rfl rfl) (T9 1 rfl rfl (Pm9 rfl rfl) (AH_takeT 2 rfl (by kernel_rfl) (by kernel_rfl) (by kernel_rfl) rfl rfl rfl (by rw [hsp27]; rfl) rfl (by decide) (Pm9 rfl rfl) (AH_takeT 3 rfl (by kernel_rfl) (by kernel_rfl) (by kernel_rfl) rfl rfl rfl (by rw [hsp27]; rfl) rfl (by decide) (Pm9 rfl rfl) (AH_takeT 4 rfl (by kernel_rfl) (by kernel_rfl) (by kernel_rfl) rfl rfl rfl (by rw [hsp27]; rfl) rfl (by decide) (Pu_idxS1 (r:=1600) rfl Tryz.runUnderlying63 Tryz.sizeOf9 rfl rfl rfl rowS_rd (by omega)) (AH_takeT 5 rfl (by kernel_rfl) (by kernel_rfl) (by kernel_rfl) rfl rfl rfl (by rw [hsp27]; rfl) rfl (by decide) (Py9 (r:=1600) rfl Tryz.isAgg9 rfl rfl rowS_rd (ss_at (k:=y) hlt2)) (AH_takeT 6 rfl (by kernel_rfl) (by kernel_rfl) (by kernel_rfl) rfl rfl rfl (by rw [hsp27]; rfl) rfl (by decide) (Pm9 rfl rfl) (AH_takeT 7 rfl (by kernel_rfl) (by kernel_rfl) (by kernel_rfl) rfl rfl rfl (by rw [hsp27]; rfl) rfl (by decide) (Pm9 rfl rfl) (AH_takeT 8 rfl (by kernel_rfl) (by kernel_rfl) (by kernel_rfl) rfl rfl rfl (by rw [hsp27]; rfl) rfl (by decide) (Pl9 (r:=1400) rfl Tryz.runUnderlying63 rfl rfl rowS_rd) (AH_takeT 9 rfl (by kernel_rfl) (by kernel_rfl) (by kernel_rfl) rfl rfl rfl (by rw [hsp27]; rfl) rfl (by decide) (Pn9 rfl rfl rfl (run_sub _ _ _ _ _ (by omega))) ?_))))))))))
         rw [show ((ls.length:Nat):Int) - 1=((ls.length - 1:Nat):Int) by omega]
         refine (AH_takeT 10 rfl (by kernel_rfl) (by kernel_rfl) (by kernel_rfl) rfl rfl rfl (by rw [hsp27]; rfl) rfl (by decide) (Pu_idxS1 (r:=1400) rfl Tryz.runUnderlying63 Tryz.sizeOf9 rfl rfl rfl rowS_rd (by omega)) (AH_takeT 11 rfl (by kernel_rfl) (by kernel_rfl) (by kernel_rfl) rfl rfl rfl (by rw [hsp27]; rfl) rfl (by decide) (Py9 (r:=1400) rfl Tryz.isAgg9 rfl rfl rowS_rd hgn) (AH_takeT 12 rfl (by kernel_rfl) (by kernel_rfl) (by kernel_rfl) rfl rfl rfl (by rw [hsp27]; rfl) rfl (by decide) (Pn9 rfl rfl rfl (run_strEq _ _ _ _ _)) (T9 13 rfl rfl (Pu_pickF rfl rfl hsp27 rfl) (T9 14 rfl rfl (Pg9 rfl rfl) (Ad9 (by kernel_rfl) (X_block (X9 ?_))))))))
         refine R9 (M9 rfl rfl (L9 rfl (Pn9 rfl rfl rfl (run_add _ _ _ _ _ (by omega))) (G9 rfl rfl (N9 ?_))))
         exact Xr9 (y + 1) (by omega) (by omega) ⟨rfl,rfl,rfl,rfl,rfl,rfl,rfl,rfl,lookV_eq rfl (congrArg Value.bool (by rw [mem_next hlt2,hsp27]; rfl)),rfl,trivial⟩ ⟨rfl,rfl,rfl,rfl,rfl,rfl,rfl,rfl,trivial⟩
       ·
        have hall:decide (en ∈ lu.take y)=true:=decide_eq_true (by rw [List.take_of_length_le (by have:=of_decide_eq_false hc176; omega)]; exact hlm)
        refine W_exit (X_then_exit (X_then_exit (X_block_exit (X9 ?_))))
        refine Q9 (R9 (M9 rfl rfl (L9 rfl (Pn9 rfl rfl rfl (run_neq _ _ _ _ _ _)) (M9 rfl rfl (WL_gPT rfl rfl rfl rfl rfl (by decide) (Pm9 rfl rfl) (WL_gPT rfl rfl rfl rfl rfl (by decide) (Pu_un rfl rfl (run_not _)) (L9 rfl (Pu_pickF rfl rfl rfl rfl) (N9 (X9 ?_)))))))))
        refine W_false rfl ((by rw [hall]; rfl)) ?_
        refine K9 (X_block (X9 ?_))
        refine R9 (M9 rfl rfl (L9 rfl (Pn9 rfl rfl rfl (run_add _ _ _ _ _ (by omega))) (G9 rfl rfl (N9 ?_))))
        exact Xr9 (x + 1) (by omega) (by omega) (a9 rfl) (a9 rfl)
      exact An9
     exact An9
    exact An9
  ·
   refine W_exit (X_then_exit (X_then_exit (X_block_exit (X9 ?_))))
   refine Q9 (R9 (G9 rfl rfl (N9 (X9 ?_))))
   refine W_ret ?_
   exact Xq9 [] (Ps:=[]) (res1 Tryz.results12 rfl) rfl (by decide) ⟨rfl,rfl⟩
end Go.Proofs.YthkdkmaacjpneaaGreatDoor
namespace Go.Proofs.YthkdkmaacjpneaaGreatDoor
open Go.RowKit Go.ChangeShapes Go.WideShapes Go.Deep

theorem wf_i64 {n:Int} (h:(Lit.int .i64 n).wf=true):-9223372036854775808≤n∧n≤9223372036854775807:=by
  simp only [Lit.wf,Bool.and_eq_true,decide_eq_true_eq] at h
  have h1:IntKind.min .i64 = -9223372036854775808:=by decide
  have h2:IntKind.max .i64=9223372036854775807:=by decide
  rw [h1,h2] at h
  exact h
theorem wf_u8 {n:Int} (h:(Lit.int .u8 n).wf=true):0≤n∧n≤255:=by
  simp only [Lit.wf,Bool.and_eq_true,decide_eq_true_eq] at h
  have h1:IntKind.min .u8=0:=by decide
  have h2:IntKind.max .u8=255:=by decide
  rw [h1,h2] at h
  exact h

def RdI (w:World) (v:Value) (zs:List Int):Prop:=Rd w 1 v zs.length (zs.map (Value.int .i64))
def I64 (zs:List Int):Prop:=∀ z ∈ zs,-9223372036854775808≤z∧z≤9223372036854775807
theorem ints_of (vs:List Value) (h:∀ u ∈ vs,∃ n,u = .int .i64 n∧(Lit.int .i64 n).wf=true):∃ zs:List Int,vs=zs.map (Value.int .i64)∧I64 zs:=by
  induction vs with
  | nil=>exact ⟨[],rfl,by simp [I64]⟩
  | cons u vs ih =>
    obtain ⟨zs,rfl,hz⟩:=ih fun x hx=>h x (List.mem_cons_of_mem _ hx)
    obtain ⟨n,rfl,hw⟩:=h u (List.mem_cons_self ..)
    refine ⟨n::zs,rfl,fun z hm=>?_⟩
    rcases List.mem_cons.1 hm with rfl | hm
    · exact wf_i64 hw
    · exact hz z hm
theorem pairs_of {α β:Type} {R:α→β→Prop} (vs:List α) (h:∀ u ∈ vs,∃ y,R u y):∃ ps:List (α × β),vs=ps.map (·.1)∧∀ p ∈ ps,R p.1 p.2:=by
  induction vs with
  | nil=>exact ⟨[],rfl,by simp⟩
  | cons u vs ih =>
    obtain ⟨ps,rfl,hp⟩:=ih fun x hx=>h x (List.mem_cons_of_mem _ hx)
    obtain ⟨y,hy⟩:=h u (List.mem_cons_self ..)
    refine ⟨(u,y)::ps,rfl,fun p hm=>?_⟩
    rcases List.mem_cons.1 hm with rfl | hm
    · exact hy
    · exact hp p hm

section
variable {H:Type} {enc:TypeId × Value→H} {P:Program} {w:World} {base:Nat} {spare:Nat→Bool} {held:Bool}

theorem slice1_of {t e:TypeId} {fuel:Nat} {v:Value} {x:DataW H × List MemPlace} (ht:P.underlying t=some (.slice e)) (hc:P.cellsOf e=1) (h:DataW.trod enc P w base spare held fuel t [v]=some x) :
    ∃ vs:List Value,Rd w 1 v vs.length vs∧vs.length≤maxLen∧∀ u ∈ vs,∃ n y,DataW.trod enc P w base spare held n e [u]=some y:=by
  rcases open_slice1 ht hc h with ⟨h1,_⟩ | ⟨a,len,cap,m,n,V,D,Pl,h1,hb,hl,hm,hmm,hx,hV⟩
  · injection h1 with h1; subst h1
    exact ⟨[],⟨rfl,none,0,rfl,Nat.le_refl _,fun _=>rfl,fun ad h=>by cases h⟩,by unfold maxLen; simp,by simp⟩
  · injection h1 with h1; subst h1
    have hle:len≤m:=by rw [hmm]; split <;> omega
    refine ⟨(List.range len).map V,⟨by simp,some a,cap,by simp,by simpa using hl,(fun h=>by cases h),fun ad had=>?_⟩,by simp; omega,fun u hu=>?_⟩
    · injection had with had; subst had
      refine ⟨fun hp=>?_,fun j u hu=>?_⟩
      · have:=(hV 0 (by simp at hp; omega)).1
        have:=World.block_lt_of_cell? _ _ this
        rwa [block_of_add] at this
      · simp only [List.getElem?_map] at hu
        have hj:j < len:=by
          rcases Nat.lt_or_ge j len with h | h
          · exact h
          · simp [List.getElem?_eq_none (show (List.range len).length≤j by simpa using h)] at hu
        simp [List.getElem?_range hj] at hu
        subst hu
        exact (hV j (by omega)).1
    · simp only [List.mem_map,List.mem_range] at hu
      obtain ⟨i,hi,rfl⟩:=hu
      exact ⟨n,_,(hV i (by omega)).2⟩

theorem rdI_of {t e:TypeId} {fuel:Nat} {v:Value} {x:DataW H × List MemPlace} (ht:P.underlying t=some (.slice e)) (he:P.underlying e=some (.int .i64)) (hc:P.cellsOf e=1) (h:DataW.trod enc P w base spare held fuel t [v]=some x) :
    ∃ l,RdI w v l∧I64 l∧l.length≤maxLen:=by
  obtain ⟨vs,hr,hm,hu⟩:=slice1_of ht hc h
  obtain ⟨l,rfl,hl⟩:=ints_of vs fun u hmem=>by
    obtain ⟨n,y,hy⟩:=hu u hmem
    obtain ⟨k,h1,_,h3⟩:=DataW.trod_int he hy
    injection h1 with h1
    exact ⟨k,h1,h3⟩
  rw [List.length_map] at hr hm
  exact ⟨l,hr,hl,hm⟩
theorem rows_of {t e:TypeId} {fs:Array Field} {fuel:Nat} {v:Value} {x:DataW H × List MemPlace} (ht:P.underlying t=some (.slice e)) (he:P.underlying e=some (.struct fs))
    (hone:oneCellFields P fs=true) (hS:0 < fs.size) (hC:P.cellsOf e=fs.size) (h:DataW.trod enc P w base spare held fuel t [v]=some x) :
    ∃ rs:List (List Value),Rd w fs.size v rs.length rs.flatten∧rs.length≤maxLen∧∀ r ∈ rs,r.length=fs.size ∧
      ∀ (j:Nat) (f:Field),fs[j]?=some f→∃ u n y,r[j]?=some u∧DataW.trod enc P w base spare held n f.type [u]=some y:=by
  rcases open_slice ht h with ⟨h1,_⟩ | ⟨a,len,cap,m,n,D,Pl,h1,hb,hl,hm,hmm,hx,hi⟩
  · injection h1 with h1; subst h1
    exact ⟨[],⟨by simp,none,0,rfl,Nat.le_refl _,fun _=>rfl,fun ad h=>by cases h⟩,by unfold maxLen; simp,by simp⟩
  · injection h1 with h1; subst h1
    have hle:len≤m:=by rw [hmm]; split <;> omega
    rw [hC] at hi
    obtain ⟨V,hV⟩:=choose_lt (α:=List Value) (p:=fun i cs'=>w.cells? base (a.add (i * fs.size)) fs.size=some cs'∧DataW.trod enc P w base spare held n e cs'=some (D i,Pl i)) (n:=m) (fun i him=>hi i him)
    have hfl:∀ i,i < len→(V i).length=fs.size:=fun i h=>(World.cells?_some (hV i (by omega)).1).2.1
    have hlen:∀ k,k≤len→((List.range k).map V).flatten.length=k * fs.size:=by
      intro k hk
      induction k with
      | zero=>simp
      | succ k ih =>
        rw [List.range_succ,List.map_append,List.flatten_append,List.length_append,ih (by omega)]
        simp [hfl k (by omega),Nat.add_mul]
    have hget:∀ k,k≤len→∀ (j:Nat) (u:Value),((List.range k).map V).flatten[j]?=some u→w.cell? (a.add j)=some u:=by
      intro k hk
      induction k with
      | zero=>intro j u hu; simp at hu
      | succ k ih =>
        intro j u hu
        rw [List.range_succ,List.map_append,List.flatten_append,List.getElem?_append,hlen k (by omega)] at hu
        split at hu
        · exact ih (by omega) j u hu
        · simp only [List.map_cons,List.map_nil,List.flatten_cons,List.flatten_nil,List.append_nil] at hu
          have hj:j - k * fs.size < fs.size:=by
            have:=(List.getElem?_eq_some_iff.1 hu).1
            rw [hfl k (by omega)] at this
            exact this
          have h2:=(World.cells?_some (hV k (by omega)).1).2.2 (j - k * fs.size) hj
          rw [add_of_add,show k * fs.size + (j - k * fs.size)=j by omega] at h2
          rw [h2,hu]
    refine ⟨(List.range len).map V,⟨by rw [hlen len (Nat.le_refl _)]; simp,some a,cap,by simp,by simpa using hl,(fun h=>by cases h),fun ad had=>?_⟩,by simp; omega,fun r hr=>?_⟩
    · injection had with had; subst had
      refine ⟨fun hp=>?_,hget len (Nat.le_refl _)⟩
      have hp':0 < len:=by simpa using hp
      have h0:=(hV 0 (by omega)).1
      have h1:=(World.cells?_some h0).2.2 0 hS
      rw [List.getElem?_eq_getElem (by rw [hfl 0 hp']; exact hS)] at h1
      have:=World.block_lt_of_cell? _ _ h1
      rwa [block_of_add,block_of_add] at this
    · simp only [List.mem_map,List.mem_range] at hr
      obtain ⟨i,hil,rfl⟩:=hr
      obtain ⟨hc,htd⟩:=hV i (by omega)
      obtain ⟨ys,n',hn',hy,hlen',hyl,hf⟩:=DataW.trod_struct he htd
      refine ⟨hfl i hil,fun j f hj=>?_⟩
      obtain ⟨ho,hk⟩:=hone_of hone j f hj
      have hjl:j < fs.size:=(Array.getElem?_eq_some_iff.1 hj).1
      have h1:=hf j f hj
      rw [ho,hk] at h1
      have hvl:=hfl i hil
      have hone':((V i).drop j).take 1=[(V i)[j]'(by omega)]:=by
        rw [List.drop_eq_getElem_cons (by omega)]
        rfl
      rw [hone',List.getElem?_eq_getElem (by omega)] at h1
      exact ⟨_,n',_,List.getElem?_eq_getElem (by omega),h1⟩
end

section
variable {H:Type} {enc:TypeId × Value→H} {P:Program} {w:World} {base b0:Nat} {spare:Nat→Bool} {held:Bool} {r:Reach} {t:TypeId} {v:Value} {d:DataW H} {ps:List MemPlace}
theorem op_int (ht:P.underlying t=some (.int .i64)) (hv:Value.okWide P w r b0 t v) (h:DataW.Trod enc P w base spare held t v d ps):∃ n,v = .int .i64 n∧-9223372036854775808≤n∧n≤9223372036854775807:=by
  obtain ⟨n,rfl,_,_,hw⟩:=open_int ht hv h
  exact ⟨n,rfl,(wf_i64 hw).1,(wf_i64 hw).2⟩
theorem op_slice {e:TypeId} (ht:P.underlying t=some (.slice e)) (hv:Value.okWide P w r b0 t v) (h:DataW.Trod enc P w base spare held t v d ps):∃ fuel,DataW.trod enc P w base spare held fuel t [v]=some (d,ps):=by
  obtain ⟨a,len,cap,rfl⟩:=okWide_slice ht hv
  obtain ⟨fuel,hf⟩:=h
  exact ⟨fuel,by simpa [Value.cells] using hf⟩
end
end Go.Proofs.YthkdkmaacjpneaaGreatDoor
namespace Go.Proofs.YthkdkmaacjpneaaGreatDoor
open Go.RowKit Go.ChangeShapes Go.WideShapes Go.Deep
section
variable {H:Type} {enc:TypeId × Value→H} {P:Program} {w:World} {base:Nat} {spare:Nat→Bool} {held:Bool}
def Tr (enc:TypeId × Value→H) (P:Program) (w:World) (base:Nat) (spare:Nat→Bool) (held:Bool) (t:TypeId) (cs:List Value):Prop:=∃ fuel x,DataW.trod enc P w base spare held fuel t cs=some x
theorem Tr.int {t:TypeId} {cs:List Value} (ht:P.underlying t=some (.int .i64)) (h:Tr enc P w base spare held t cs):∃ n,cs=[.int .i64 n]∧-9223372036854775808≤n∧n≤9223372036854775807:=by
  obtain ⟨f,x,h⟩:=h
  obtain ⟨n,rfl,_,hw⟩:=DataW.trod_int ht h
  exact ⟨n,rfl,wf_i64 hw⟩
theorem Tr.bool {t:TypeId} {cs:List Value} (ht:P.underlying t=some .bool) (h:Tr enc P w base spare held t cs):∃ b,cs=[Value.bool b]:=by
  obtain ⟨f,x,h⟩:=h
  obtain ⟨b,rfl,_⟩:=DataW.trod_bool ht h
  exact ⟨b,rfl⟩
theorem Tr.u8 {t:TypeId} {cs:List Value} (ht:P.underlying t=some (.int .u8)) (h:Tr enc P w base spare held t cs):∃ x,cs=[bv x]:=by
  obtain ⟨f,x,h⟩:=h
  obtain ⟨n,rfl,_,hw⟩:=DataW.trod_int ht h
  have:=wf_u8 hw
  refine ⟨UInt8.ofNat n.toNat,?_⟩
  simp only [bv]
  congr 2
  rw [UInt8.toNat_ofNat']
  omega
theorem Tr.struct {t:TypeId} {cs:List Value} {fs:Array Field} (ht:P.underlying t=some (.struct fs)) (h:Tr enc P w base spare held t cs):cs.length=P.cellsOf t∧∀ (i:Nat) (f:Field),fs[i]?=some f→Tr enc P w base spare held f.type ((cs.drop f.offset).take (P.cellsOf f.type)):=by
  obtain ⟨f,x,h⟩:=h
  obtain ⟨xs,n,_,_,hl,hx,hf⟩:=DataW.trod_struct ht h
  refine ⟨hl,fun i f hi=>?_⟩
  have h1:=hf i f hi
  have hlt:i < xs.length:=by rw [hx]; exact (Array.getElem?_eq_some_iff.1 hi).1
  rw [List.getElem?_eq_getElem hlt] at h1
  exact ⟨n,_,h1⟩
theorem Tr.array {t e:TypeId} {n:Nat} {cs:List Value} (ht:P.underlying t=some (.array n e)) (h:Tr enc P w base spare held t cs):cs.length=P.cellsOf t∧∀ i,i < n→Tr enc P w base spare held e ((cs.drop (i * P.cellsOf e)).take (P.cellsOf e)):=by
  obtain ⟨f,x,h⟩:=h
  obtain ⟨xs,m,_,_,hl,hx,hf⟩:=DataW.trod_array ht h
  refine ⟨hl,fun i hi=>?_⟩
  have h1:=hf i hi
  rw [List.getElem?_eq_getElem (by omega)] at h1
  exact ⟨m,_,h1⟩
theorem Tr.bytes {t e:TypeId} {n:Nat} {cs:List Value} (ht:P.underlying t=some (.array n e)) (he:P.underlying e=some (.int .u8)) (hc:P.cellsOf e=1) (hn:P.cellsOf t=n) (h:Tr enc P w base spare held t cs):∃ l,cs=bs l∧l.length=n:=by
  obtain ⟨hl,hf⟩:=h.array ht
  rw [hn] at hl
  rw [hc] at hf
  have key:∀ (cs:List Value),(∀ i,i < cs.length→Tr enc P w base spare held e ((cs.drop (i * 1)).take 1))→∃ l,cs=bs l:=by
    intro cs
    induction cs with
    | nil=>intro _; exact ⟨[],rfl⟩
    | cons u cs ih =>
      intro h
      obtain ⟨l,rfl⟩:=ih (fun i hi=>by
        have:=h (i + 1) (by simpa using hi)
        simpa using this)
      obtain ⟨x,hx⟩:=(h 0 (by simp)).u8 he
      simp at hx
      exact ⟨x::l,by simp [bs,hx]⟩
  obtain ⟨l,rfl⟩:=key cs (fun i hi=>hf i (by omega))
  exact ⟨l,rfl,by rw [← hl,bs_length]⟩
end
section
variable {H:Type} {enc:TypeId × Value→H} {P:Program} {w:World} {base b0:Nat} {spare:Nat→Bool} {held:Bool} {r:Reach} {t:TypeId} {v:Value} {d:DataW H} {ps:List MemPlace}
end
end Go.Proofs.YthkdkmaacjpneaaGreatDoor
namespace Go.Proofs.YthkdkmaacjpneaaGreatDoor
open Go.RowKit Go.ChangeShapes Go.WideShapes Go.Deep
section
variable {H:Type} {enc:TypeId × Value→H} {P:Program} {w:World} {base:Nat} {spare:Nat→Bool} {held:Bool}
end
end Go.Proofs.YthkdkmaacjpneaaGreatDoor
namespace Go.Proofs.YthkdkmaacjpneaaGreatDoor
open Go.RowKit Go.ChangeShapes Go.WideShapes Go.Deep
section
variable {H:Type} {enc:TypeId × Value→H} {P:Program} {w:World} {base b0:Nat} {spare:Nat→Bool} {held:Bool} {r:Reach} {t:TypeId} {v:Value} {d:DataW H} {ps:List MemPlace}
end
end Go.Proofs.YthkdkmaacjpneaaGreatDoor
namespace Go.Proofs.YthkdkmaacjpneaaGreatDoor
open Go.RowKit Go.ChangeShapes Go.WideShapes Go.Deep
section
variable {H:Type} {enc:TypeId × Value→H} {w:World} {base:Nat} {spare:Nat→Bool} {held:Bool} {v:Value}
theorem rdFiles_of {fuel:Nat} {x:DataW H × List MemPlace} (h:DataW.trod enc Tryz.prog w base spare held fuel 22 [v]=some x) :
    ∃ fs:List FV,(Rd w 3 v fs.length (recC fileC fs)∧∀ f ∈ fs,Rd w 1 f.2.1 f.1.length (is f.1))∧fs.length≤maxLen:=by
  obtain ⟨rs,hr,hm,hrs⟩:=rows_of Tryz.underlying22 Tryz.underlying97 (by kernel_rfl) (by decide) (by kernel_rfl) h
  obtain ⟨cs,hcs,hp⟩:=pairs_of (R:=fun (r:List Value) (c:FV)=>r=fileC c∧Rd w 1 c.2.1 c.1.length (is c.1)) rs fun r hrm=>by
    obtain ⟨hl,hf⟩:=hrs r hrm
    obtain ⟨u0,n0,y0,e0,t0⟩:=hf 0 _ rfl
    obtain ⟨u1,n1,y1,e1,t1⟩:=hf 1 _ rfl
    obtain ⟨u2,n2,y2,e2,t2⟩:=hf 2 _ rfl
    obtain ⟨l,hl2,_⟩:=rdI_of Tryz.underlying61 Tryz.underlying3 (by kernel_rfl) t0
    obtain ⟨a,ha,_,wa⟩:=DataW.trod_int Tryz.underlying3 t1
    obtain ⟨b,hb⟩:=Tr.u8 Tryz.underlying5 (cs:=[u2]) ⟨n2,y2,t2⟩
    injection ha with ha; injection hb with hb
    subst ha; subst hb
    refine ⟨⟨l,u0,a,b⟩,?_,hl2⟩
    match r,hl with
    | [r0,r1,r2],_ =>
      simp at e0 e1 e2
      subst e0; subst e1; subst e2
      rfl
  subst hcs
  rw [List.length_map] at hr hm
  refine ⟨cs.map (·.2),⟨?_,fun c hc=>?_⟩,by simpa using hm⟩
  · have he:recC fileC (cs.map (·.2))=(cs.map (·.1)).flatten:=by
      unfold recC
      rw [List.map_map]
      congr 1
      refine List.map_congr_left fun p hpm=>?_
      exact (hp p hpm).1.symm
    rw [he,List.length_map]
    exact hr
  · simp only [List.mem_map] at hc
    obtain ⟨p,hpm,rfl⟩:=hc
    exact (hp p hpm).2
end
open Go.RowKit
theorem treeBack_any (W:World) (hT:∀ h,orig W h→tabsP h) (v0:Value) (l0:List FV) (hr0:Rd W 3 v0 l0.length (recC fileC l0)∧∀ f ∈ l0,Rd W 1 f.2.1 f.1.length (is f.1)) (hl0:l0.length≤maxLen)
    (a1:Int) (lo1:-9223372036854775808≤a1) (hi1:a1≤9223372036854775807) (a2:Int) (lo2:-9223372036854775808≤a2) (hi2:a2≤9223372036854775807) :
    Calls Tryz.prog 12 #[v0,.int .i64 a1,.int .i64 a2] W fun e W'=>e = .returned (.bool true)∧Chg [] W W' :=
  calls_law ((treeBack_spec v0 l0 a1 a2 (orig W) (fun h hp=>Rd.orig hr0.1 h hp) (fun h hp f hf=>Rd.orig (hr0.2 f hf) h hp) hT).imp fun v Ps h=>h.1)
end Go.Proofs.YthkdkmaacjpneaaGreatDoor
namespace Go.Proofs.YthkdkmaacjpneaaGreatDoor
open Go.RowKit Go.Lib
set_option maxRecDepth 100000
theorem first_eq:Go.Pinned.utf8First=firstData:=by kernel_rfl
theorem accept_eq:(Rows.laid_unicode_utf8_acceptRanges:DataW Unit)=acceptData:=by kernel_rfl
def laidL:List (String × DataW Unit):=[("unicode/utf8.acceptRanges",Rows.laid_unicode_utf8_acceptRanges),("unicode/utf8.first",Rows.laid_unicode_utf8_first)]
theorem tabs_of_laid {W:World} (h:laidMetH Tryz.prog laidL W) (hsh:W.ShapedOpen Tryz.prog):∀ h,orig W h→tabsP h:=by
  rw [MakeChecks.laidMetH_plain _ _ _ (by kernel_rfl)] at h
  have h3:VarReads Tryz.prog W "unicode/utf8.first" firstData:=by
    rw [← first_eq]
    exact laidMet.reads h (List.mem_cons_of_mem _ List.mem_cons_self)
  have h4:VarReads Tryz.prog W "unicode/utf8.acceptRanges" acceptData:=by
    rw [← accept_eq]
    exact laidMet.reads h List.mem_cons_self
  refine orig_tabs (utf8Tabs_of_reads lays260 laysU h3 h4) ?_
  exact cell_of_shapedOpen_int (zero:=#[.int .i64 0]) (t:=3) hsh (of_decide_eq_true (by kernel_rfl)) (by kernel_rfl) rfl (by kernel_rfl) (by kernel_rfl) Tryz.underlying3
def lay (cs:List Value):Obj→Obj
  | .cells _ t frozen=>.cells cs.toArray t frozen
  | o=>o
def firstCells:List Value:=(List.range 256).map fun c=>Value.int .u8 (firstT c:Int)
def acceptCells:List Value:=((List.range 16).map fun i=>[Value.int .u8 (accLo i:Int),Value.int .u8 (accHi i:Int)]).flatten
noncomputable def laidWorld (os:Os):World :=
  { World.holding Tryz.prog os ⟨#[],#[],[]⟩ with heap:=((World.holding Tryz.prog os ⟨#[],#[],[]⟩).heap.modify 1 (lay firstCells)).modify 2 (lay acceptCells) }
theorem laid_met (os:Os) (args:Array Value):laidMet Tryz.prog laidL ((laidWorld os).forCall (fun _ _=>0) ⟨#[],args,[]⟩).memory :=
  laidMet_of_run' 8 (by kernel_rfl) (by kernel_rfl)
end Go.Proofs.YthkdkmaacjpneaaGreatDoor
