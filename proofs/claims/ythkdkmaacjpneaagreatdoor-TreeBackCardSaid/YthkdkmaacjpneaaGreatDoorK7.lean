/- Texts of this proof, one behind the other: TreeRl, TreeAB, TreeLn, TreeSe, TreeSg, TreeNm, TreeFl, TreeFn, TreePp, TreeSz, TreeSh, TreeSk, TreeSf, TreeMt. -/
import Derived.Test.YthkdkmaacjpneaaGreatDoorK6
import Derived.Test.YthkdkmaacjpneaaGreatDoorK5
import Derived.Test.YthkdkmaacjpneaaGreatDoorK3
import Derived.Test.YthkdkmaacjpneaaGreatDoorK2
set_option linter.unusedVariables false
set_option linter.unusedSimpArgs false
set_option linter.unusedSectionVars false
namespace Go.Proofs.YthkdkmaacjpneaaGreatDoor
open Go.RowKit
def subP (n:List UInt8):List PN→List PN
  | []=>[]
  | p::ps=>match p.1 with
    | m::k::q=>if m=n then (k::q,p.2)::subP n ps else subP n ps
    | _=>subP n ps
theorem subP_app (n:List UInt8):∀ a b:List PN,subP n (a++b)=subP n a++subP n b
  | [],b=>rfl
  | p::a,b=>by
    rw [List.cons_append,subP,subP]
    split
    · split
      · rw [subP_app n a b]; rfl
      · exact subP_app n a b
    · exact subP_app n a b
theorem subP_one (n m:List UInt8) (d:List UInt8):subP n [([m],d)]=[]:=rfl
theorem subP_deep (n:List UInt8) (k:List UInt8) (q:List (List UInt8)) (d:List UInt8):subP n [(n::k::q,d)]=[(k::q,d)]:=by simp [subP]
theorem subP_oth {n m:List UInt8} (h:m≠n) (k:List UInt8) (q:List (List UInt8)) (d:List UInt8):subP n [(m::k::q,d)]=[]:=by simp [subP,h]
theorem subP_mem {n:List UInt8} {r:PN}:∀ {ps:List PN},r ∈ subP n ps→∃ k q,r.1=k::q∧(n::k::q,r.2) ∈ ps
  | [],h=>by cases h
  | p::ps,h=>by
    rw [subP] at h
    split at h
    · rename_i m k q he
      split at h
      · rename_i hm
        rcases List.mem_cons.1 h with rfl | h
        · refine ⟨k,q,rfl,?_⟩
          rw [← hm,← he]
          exact List.mem_cons_self
        · obtain ⟨k',q',h1,h2⟩:=subP_mem h
          exact ⟨k',q',h1,List.mem_cons_of_mem _ h2⟩
      · obtain ⟨k',q',h1,h2⟩:=subP_mem h
        exact ⟨k',q',h1,List.mem_cons_of_mem _ h2⟩
    · obtain ⟨k',q',h1,h2⟩:=subP_mem h
      exact ⟨k',q',h1,List.mem_cons_of_mem _ h2⟩
theorem mem_subP {n k:List UInt8} {q:List (List UInt8)} {d:List UInt8}:∀ {ps:List PN},(n::k::q,d) ∈ ps→(k::q,d) ∈ subP n ps
  | [],h=>by cases h
  | p::ps,h=>by
    rcases List.mem_cons.1 h with rfl | h
    · simp [subP]
    · have:=mem_subP h
      rw [subP]
      split
      · split
        · exact List.mem_cons_of_mem _ this
        · exact this
      · exact this
def oneP (p:PN):Bool:=p.1.length == 1
mutual
def Rel:HT→List PN→Prop
  | .mk _ _ _ dirs files,ps=>(∀ p ∈ ps,p.1≠[])∧files.map (fun f=>(([f.1],f.2.2):PN))=ps.filter oneP∧(∀ n,subP n ps≠[] ↔ n ∈ dirs.map (·.1))∧(files.map (·.1)++dirs.map (·.1)).Nodup∧dirs.length + files.length≤ps.length∧RelL dirs ps
def RelL:List (List UInt8 × HT)→List PN→Prop
  | [],_=>True
  | d::ds,ps=>Rel d.2 (subP d.1 ps)∧RelL ds ps
end
theorem Rel_mk {g gd gf:Nat} {dirs:List (List UInt8 × HT)} {files:List F3} {ps:List PN}:Rel (.mk g gd gf dirs files) ps ↔ (∀ p ∈ ps,p.1≠[])∧files.map (fun f=>(([f.1],f.2.2):PN))=ps.filter oneP∧(∀ n,subP n ps≠[] ↔ n ∈ dirs.map (·.1))∧(files.map (·.1)++dirs.map (·.1)).Nodup∧dirs.length + files.length≤ps.length∧RelL dirs ps:=by rw [Rel]
theorem RelL_iff {ps:List PN}:∀ {ds:List (List UInt8 × HT)},RelL ds ps ↔ ∀ d ∈ ds,Rel d.2 (subP d.1 ps)
  | []=>by simp [RelL]
  | d::ds=>by rw [RelL,RelL_iff]; simp
theorem Rel_nil (g gd gf:Nat):Rel (.mk g gd gf [] []) []:=Rel_mk.2 ⟨by simp,rfl,by simp [subP],by simp,by simp,RelL_iff.2 (by simp)⟩
theorem nodup_end {α:Type} {a b:List α} {n:α} (h:(a++b).Nodup) (h1:n ∉ a) (h2:n ∉ b):((a++[n])++b).Nodup:=by
  rw [List.append_assoc]
  have e:(a++([n]++b)).Perm (n::(a++b)):=List.perm_middle
  rw [e.nodup_iff,List.nodup_cons]
  exact ⟨by simp [h1,h2],h⟩
theorem Rel_put:∀ (p:List (List UInt8)) (v:Value) (d:List UInt8) (T T':HT),canPut p T=true→Put p v d T T'→∀ ps,Rel T ps→Rel T' (ps++[(p,d)])
  | [],_,_,_,_,_,h,_,_=>by simp [Put] at h
  | [n],v,d,.mk g gd gf dirs files,T',hc,hp,ps,hr=>by
    simp only [Put] at hp
    subst hp
    simp only [canPut,Bool.and_eq_true,Option.isNone_iff_eq_none] at hc
    rw [Rel_mk] at hr ⊢
    obtain ⟨h1,h2,h3,h4,h6,h5⟩:=hr
    have hs:∀ m,subP m (ps++[([n],d)])=subP m ps:=fun m=>by rw [subP_app,subP_one,List.append_nil]
    refine ⟨fun p hp=>?_,?_,fun m=>by rw [hs]; exact h3 m,?_,by simp only [List.length_append,List.length_singleton]; omega,RelL_iff.2 fun x hx=>by rw [hs]; exact RelL_iff.1 h5 x hx⟩
    · rcases List.mem_append.1 hp with hp | hp
      · exact h1 p hp
      · rw [List.mem_singleton.1 hp]; simp
    · rw [List.map_append,h2,List.filter_append]
      simp [oneP]
    · rw [List.map_append]
      exact nodup_end h4 (lookA_none.1 hc.1) (lookA_none.1 hc.2)
  | n::k::p,v,d,.mk g gd gf dirs files,T',hc,hp,ps,hr=>by
    simp only [Put] at hp
    rw [canPut,Bool.and_eq_true,Option.isNone_iff_eq_none] at hc
    obtain ⟨hc1,hc2⟩:=hc
    rw [Rel_mk] at hr
    obtain ⟨h1,h2,h3,h4,h6,h5⟩:=hr
    have hne:∀ q ∈ ps++[((n::k::p,d):PN)],q.1≠[]:=fun q hq=>by
      rcases List.mem_append.1 hq with hq | hq
      · exact h1 q hq
      · rw [List.mem_singleton.1 hq]; simp
    have hfl:files.map (fun f=>(([f.1],f.2.2):PN))=(ps++[((n::k::p,d):PN)]).filter oneP:=by
      rw [h2,List.filter_append]
      simp [oneP]
    have hsn:subP n (ps++[((n::k::p,d):PN)])=subP n ps++[(k::p,d)]:=by rw [subP_app,subP_deep]
    have hso:∀ m,m≠n→subP m (ps++[((n::k::p,d):PN)])=subP m ps:=fun m hm=>by rw [subP_app,subP_oth (fun h=>hm h.symm),List.append_nil]
    rcases hp with ⟨a,c,t,t',rfl,ha,hpt,rfl⟩ | ⟨hno,g1,gd1,gf1,t',hpt,rfl⟩
    · have hat:lookA n (a++(n,t)::c)=some t:=by simp [lookA_app,lookA,ha]
      rw [hat] at hc2
      have hnm:(a++(n,t')::c).map (·.1)=(a++(n,t)::c).map (·.1):=by simp
      rw [Rel_mk,hnm]
      have hnd:((a++(n,t)::c).map (·.1)).Nodup:=(List.nodup_append.1 h4).2.1
      have hnc:n ∉ c.map (·.1):=by
        rw [List.map_append,List.nodup_append] at hnd
        have:=hnd.2.1
        rw [List.map_cons,List.nodup_cons] at this
        exact this.1
      refine ⟨hne,hfl,fun m=>?_,h4,by simp only [List.length_append,List.length_cons,List.length_nil] at h6 ⊢; omega,RelL_iff.2 fun x hx=>?_⟩
      · by_cases hm:m=n
        · subst hm
          rw [hsn]
          simp
        · rw [hso m hm]; exact h3 m
      · have h5':=RelL_iff.1 h5
        rcases List.mem_append.1 hx with hx | hx
        · have hxn:x.1≠n:=fun h=>lookA_none.1 ha (by rw [← h]; exact List.mem_map_of_mem hx)
          rw [hso _ hxn]
          exact h5' x (by simp [hx])
        · rcases List.mem_cons.1 hx with rfl | hx
          · show Rel t' (subP n _)
            rw [hsn]
            exact Rel_put (k::p) v d t t' hc2 hpt _ (h5' (n,t) (by simp))
          · have hxn:x.1≠n:=fun h=>hnc (by rw [← h]; exact List.mem_map_of_mem hx)
            rw [hso _ hxn]
            exact h5' x (by simp [hx])
    · have hnd:=lookA_none.1 hno
      have hs0:subP n ps=[]:=by
        cases hs:subP n ps with
        | nil=>rfl
        | cons x l=>exact absurd ((h3 n).1 (by rw [hs]; simp)) hnd
      rw [Rel_mk]
      refine ⟨hne,hfl,fun m=>?_,?_,by simp only [List.length_append,List.length_cons,List.length_nil]; omega,RelL_iff.2 fun x hx=>?_⟩
      · by_cases hm:m=n
        · subst hm
          rw [hsn]
          simp
        · rw [hso m hm,h3 m]
          simp [hm]
      · rw [List.map_append,← List.append_assoc]
        have e:((files.map (·.1)++dirs.map (·.1))++[n]).Perm (n::(files.map (·.1)++dirs.map (·.1))):=by
          have:=List.perm_middle (a:=n) (l₁:=files.map (·.1)++dirs.map (·.1)) (l₂:=[])
          simpa using this
        show ((files.map (·.1)++dirs.map (·.1))++[n]).Nodup
        rw [e.nodup_iff,List.nodup_cons]
        refine ⟨fun h=>?_,h4⟩
        rcases List.mem_append.1 h with h | h
        · exact lookA_none.1 hc1 h
        · exact hnd h
      · rcases List.mem_append.1 hx with hx | hx
        · have hxn:x.1≠n:=fun h=>hnd (by rw [← h]; exact List.mem_map_of_mem hx)
          rw [hso _ hxn]
          exact RelL_iff.1 h5 x hx
        · rw [List.mem_singleton.1 hx]
          show Rel t' (subP n _)
          rw [hsn,hs0]
          exact Rel_put (k::p) v d _ t' (canPut_nil _ (by simp) _ _ _) hpt [] (Rel_nil _ _ _)
theorem Filled.rel {xs:List F3} {T:HT} (h:Filled xs T):Rel T (partsN xs):=by
  induction h with
  | nil g gd gf=>exact Rel_nil _ _ _
  | snoc l x T T' h1 h2 h3 ih =>
    have e:partsN (l++[x])=partsN l++[(pathOf x,x.2.2)]:=by simp [partsN]
    rw [e]
    exact Rel_put _ _ _ _ _ h2 h3 _ ih
def filP (u:List UInt8) (ps:List PN):List PN:=ps.filter fun p=>decide (p.1=[u])
theorem scan_is (u:List UInt8):∀ (ps:List PN),(∀ p ∈ ps,p.1≠[])→∀ (z:List UInt8) (bs:List (List UInt8)) (ss:List PN),ps.foldl (scan1 u) (z,bs,ss)=((filP u ps).foldl (fun _ p=>idF 1 p.2) z,bs++((filP u ps).map fun p=>blocksF 1 p.2).flatten,ss++subP u ps)
  | [],_,z,bs,ss=>by simp [filP,subP]
  | p::ps,hne,z,bs,ss=>by
    have ih:=scan_is u ps (fun q hq=>hne q (by simp [hq]))
    obtain ⟨l,d⟩:=p
    have h0:=hne (l,d) (by simp)
    rw [List.foldl_cons]
    match l,h0 with
    | [m],_ =>
      by_cases hm:m=u
      · subst hm
        have e1:scan1 m (z,bs,ss) ([m],d)=(idF 1 d,bs++blocksF 1 d,ss):=by simp [scan1,headP]
        rw [e1,ih]
        simp [filP,subP]
      · have e1:scan1 u (z,bs,ss) ([m],d)=(z,bs,ss):=by simp [scan1,headP,hm]
        rw [e1,ih]
        simp [filP,subP,hm]
    | m::k::q,_ =>
      by_cases hm:m=u
      · subst hm
        have e1:scan1 m (z,bs,ss) (m::k::q,d)=(z,bs,ss++[(k::q,d)]):=by simp [scan1,headP]
        rw [e1,ih]
        simp [filP,subP]
      · have e1:scan1 u (z,bs,ss) (m::k::q,d)=(z,bs,ss):=by simp [scan1,headP,hm]
        rw [e1,ih]
        simp [filP,subP,hm]
theorem scanP_is {u:List UInt8} {ps:List PN} (hne:∀ p ∈ ps,p.1≠[]):scanP u ps=((filP u ps).foldl (fun _ p=>idF 1 p.2) zeroId,((filP u ps).map fun p=>blocksF 1 p.2).flatten,subP u ps):=by
  unfold scanP
  rw [scan_is u ps hne]
  simp
theorem mem_insU {s x:List UInt8}:∀ {l:List (List UInt8)},x=s∨x ∈ l→x ∈ insU s l
  | [],h=>by simpa [insU] using h
  | y::r,h=>by
    rw [insU]
    split
    · rcases h with h | h
      · exact List.mem_cons_of_mem _ (mem_insU (.inl h))
      · rcases List.mem_cons.1 h with rfl | h
        · exact List.mem_cons_self
        · exact List.mem_cons_of_mem _ (mem_insU (.inr h))
    · split
      · rename_i h1 h2
        rcases h with h | h
        · rw [h,← h2]; exact List.mem_cons_self
        · exact h
      · rcases h with h | h
        · rw [h]; exact List.mem_cons_self
        · exact List.mem_cons_of_mem _ h
abbrev SortU (l:List (List UInt8)):Prop:=l.Pairwise fun a b=>Op.bytesLess a b=true
theorem insU_sort {s:List UInt8}:∀ {l:List (List UInt8)},SortU l→SortU (insU s l)
  | [],_=>List.pairwise_singleton _ _
  | x::l,h=>by
    have h1:=(List.pairwise_cons.1 h).1
    rw [insU]
    split
    · rename_i hl
      refine List.pairwise_cons.2 ⟨fun y hy=>?_,insU_sort (List.pairwise_cons.1 h).2⟩
      rcases insU_mem hy with rfl | hy
      · exact hl
      · exact h1 y hy
    · split
      · exact h
      · rename_i hl hne
        have hex:Op.bytesLess s x=true:=less_of_not hl hne
        refine List.pairwise_cons.2 ⟨fun y hy=>?_,h⟩
        rcases List.mem_cons.1 hy with rfl | hy
        · exact hex
        · exact less_trans _ _ _ hex (h1 y hy)
theorem names_mem:∀ (ps:List PN) (l:List (List UInt8)) (u:List UInt8),u ∈ ps.foldl (fun l p=>insU (headP p) l) l ↔ u ∈ l∨∃ p ∈ ps,headP p=u
  | [],l,u=>by simp
  | p::ps,l,u=>by
    rw [List.foldl_cons,names_mem ps]
    constructor
    · rintro (h | ⟨q,hq,h⟩)
      · rcases insU_mem h with h | h
        · exact .inr ⟨p,by simp,h.symm⟩
        · exact .inl h
      · exact .inr ⟨q,by simp [hq],h⟩
    · rintro (h | ⟨q,hq,h⟩)
      · exact .inl (mem_insU (.inr h))
      · rcases List.mem_cons.1 hq with rfl | hq
        · exact .inl (mem_insU (.inl h.symm))
        · exact .inr ⟨q,hq,h⟩
theorem namesP_mem {ps:List PN} {u:List UInt8}:u ∈ namesP ps ↔ ∃ p ∈ ps,headP p=u:=by unfold namesP; rw [names_mem]; simp
theorem names_sort:∀ (ps:List PN) (l:List (List UInt8)),SortU l→SortU (ps.foldl (fun l p=>insU (headP p) l) l)
  | [],l,h=>h
  | p::ps,l,h=>by rw [List.foldl_cons]; exact names_sort ps _ (insU_sort h)
theorem namesP_sort (ps:List PN):SortU (namesP ps):=names_sort ps [] List.Pairwise.nil
theorem sortN_ext:∀ {a b:List Ent},SortN a→SortN b→(∀ x,x ∈ a ↔ x ∈ b)→a=b
  | [],[],_,_,_=>rfl
  | [],y::b,_,_,h=>absurd ((h y).2 (by simp)) (by simp)
  | x::a,[],_,_,h=>absurd ((h x).1 (by simp)) (by simp)
  | x::a,y::b,ha,hb,h=>by
    have ha1:=(List.pairwise_cons.1 ha).1
    have hb1:=(List.pairwise_cons.1 hb).1
    have hxy:x=y:=by
      rcases List.mem_cons.1 ((h x).1 (by simp)) with h1 | h1
      · exact h1
      · rcases List.mem_cons.1 ((h y).2 (by simp)) with h2 | h2
        · exact h2.symm
        · have h3:=less_trans _ _ _ (ha1 _ h2) (hb1 _ h1)
          rw [less_irr] at h3
          cases h3
    subst hxy
    have hna:x ∉ a:=fun hm=>by have:=ha1 _ hm; rw [less_irr] at this; cases this
    have hnb:x ∉ b:=fun hm=>by have:=hb1 _ hm; rw [less_irr] at this; cases this
    rw [sortN_ext (List.pairwise_cons.1 ha).2 (List.pairwise_cons.1 hb).2 fun z=>⟨fun hz=>?_,fun hz=>?_⟩]
    · rcases List.mem_cons.1 ((h z).1 (by simp [hz])) with rfl | h1
      · exact absurd hz hna
      · exact h1
    · rcases List.mem_cons.1 ((h z).2 (by simp [hz])) with rfl | h1
      · exact absurd hz hnb
      · exact h1
theorem rel_dir:∀ (f:Nat) (T:HT) (ps:List PN),Rel T ps→(∀ p ∈ ps,p.1.length≤f + 1)→idT T=(dirI (f + 1) ps).1∧∀ b ∈ blocksT T,b ∈ (dirI (f + 1) ps).2:=by
  intro f
  induction f with
  | zero =>
    intro T ps hr hl
    obtain ⟨g,gd,gf,dirs,files⟩:=T
    have hd:dirs=[]:=by
      rw [Rel_mk] at hr
      cases hdd:dirs with
      | nil=>rfl
      | cons x l =>
        have:=(hr.2.2.1 x.1).2 (by rw [hdd]; simp)
        cases hs:subP x.1 ps with
        | nil=>exact absurd hs this
        | cons r l2 =>
          obtain ⟨k,q,_,hm⟩:=subP_mem (show r ∈ subP x.1 ps by rw [hs]; simp)
          have:=hl _ hm
          simp at this
    subst hd
    exact rel_step 0 g gd gf [] files ps hr (fun x hx=>absurd hx (by simp))
  | succ f ih =>
    intro T ps hr hl
    obtain ⟨g,gd,gf,dirs,files⟩:=T
    refine rel_step (f + 1) g gd gf dirs files ps hr fun x hx=>?_
    rw [Rel_mk] at hr
    refine ih x.2 _ (RelL_iff.1 hr.2.2.2.2.2 x hx) fun r hrm=>?_
    obtain ⟨k,q,h1,hm⟩:=subP_mem hrm
    have:=hl _ hm
    rw [h1]
    simp at this ⊢
    omega
where
  rel_step (f g gd gf:Nat) (dirs:List (List UInt8 × HT)) (files:List F3) (ps:List PN) (hr:Rel (.mk g gd gf dirs files) ps) (ih:∀ x ∈ dirs,idT x.2=(dirI f (subP x.1 ps)).1∧∀ b ∈ blocksT x.2,b ∈ (dirI f (subP x.1 ps)).2):idT (.mk g gd gf dirs files)=(dirI (f + 1) ps).1∧∀ b ∈ blocksT (.mk g gd gf dirs files),b ∈ (dirI (f + 1) ps).2:=by
    rw [Rel_mk] at hr
    obtain ⟨h1,h2,h3,h4,h6,h5⟩:=hr
    have hfm:∀ x ∈ files,([x.1],x.2.2) ∈ ps:=fun x hx=>by
      have:(([x.1],x.2.2):PN) ∈ files.map (fun f=>(([f.1],f.2.2):PN)):=List.mem_map_of_mem (f:=fun f=>(([f.1],f.2.2):PN)) hx
      rw [h2] at this
      exact (List.mem_filter.1 this).1
    have hnf:=(List.nodup_append.1 h4).1
    have hfil:∀ x ∈ files,filP x.1 ps=[([x.1],x.2.2)]:=fun x hx=>by
      have e:filP x.1 ps=(ps.filter oneP).filter fun p=>decide (p.1=[x.1]):=by
        rw [List.filter_filter]
        unfold filP
        congr 1
        funext p
        by_cases hp:p.1=[x.1]
        · simp [hp,oneP]
        · simp [hp]
      rw [e,← h2,List.filter_map]
      have e2:files.filter ((fun p:PN=>decide (p.1=[x.1])) ∘ fun f=>(([f.1],f.2.2):PN))=[x]:=by
        clear e hfm h2 h4 h5 h6
        induction files with
        | nil=>cases hx
        | cons y l ih2 =>
          rw [List.map_cons,List.nodup_cons] at hnf
          rcases List.mem_cons.1 hx with rfl | hx
          · have:l.filter ((fun p:PN=>decide (p.1=[x.1])) ∘ fun f=>(([f.1],f.2.2):PN))=[]:=by
              rw [List.filter_eq_nil_iff]
              intro z hz hc
              simp at hc
              exact hnf.1 (by rw [← hc]; exact List.mem_map_of_mem hz)
            simp only [List.filter_cons,this]
            simp
          · have hyx:¬ y.1=x.1:=fun h=>hnf.1 (by rw [h]; exact List.mem_map_of_mem hx)
            simp only [List.filter_cons]
            simp [hyx]
            have:=ih2 hnf.2 hx
            simpa [Function.comp] using this
      rw [e2]
      rfl
    have hdj:∀ x ∈ files,∀ y ∈ dirs,x.1≠y.1:=fun x hx y hy h=>(List.nodup_append.1 h4).2.2 x.1 (List.mem_map_of_mem hx) y.1 (List.mem_map_of_mem hy) h
    have hsub:∀ x ∈ files,subP x.1 ps=[]:=fun x hx=>by
      cases hs:subP x.1 ps with
      | nil=>rfl
      | cons r l =>
        have:=(h3 x.1).1 (by rw [hs]; simp)
        obtain ⟨y,hy,he⟩:=List.mem_map.1 this
        exact absurd he.symm (hdj x hx y hy)
    have hef:∀ x ∈ files,entU f ps x.1=(x.1,idF 1 x.2.2)∧blkU f ps x.1=blocksF 1 x.2.2:=fun x hx=>by
      unfold entU blkU
      rw [scanP_is h1,hfil x hx,hsub x hx]
      simp
    have hdne:∀ y ∈ dirs,subP y.1 ps≠[]:=fun y hy=>(h3 y.1).2 (List.mem_map_of_mem hy)
    have hdf:∀ y ∈ dirs,filP y.1 ps=[]:=fun y hy=>by
      unfold filP
      rw [List.filter_eq_nil_iff]
      intro p hp hc
      simp at hc
      have hm:p ∈ ps.filter oneP:=List.mem_filter.2 ⟨hp,by simp [oneP,hc]⟩
      rw [← h2] at hm
      obtain ⟨x,hx,rfl⟩:=List.mem_map.1 hm
      simp at hc
      exact hdj x hx y hy hc
    have hed:∀ y ∈ dirs,entU f ps y.1=(y.1,idT y.2)∧blkU f ps y.1=(dirI f (subP y.1 ps)).2:=fun y hy=>by
      have hl:(subP y.1 ps).length≠0:=fun h=>hdne y hy (List.length_eq_zero_iff.1 h)
      unfold entU blkU
      rw [scanP_is h1,hdf y hy]
      simp only [if_neg hl,(ih y hy).1]
      simp
    have hnm:∀ u,u ∈ namesP ps ↔ u ∈ files.map (·.1)∨u ∈ dirs.map (·.1):=fun u=>by
      rw [namesP_mem]
      constructor
      · rintro ⟨p,hp,rfl⟩
        obtain ⟨l,d⟩:=p
        match l,h1 _ hp with
        | [m],_ =>
          have hm:(([m],d):PN) ∈ ps.filter oneP:=List.mem_filter.2 ⟨hp,rfl⟩
          rw [← h2] at hm
          obtain ⟨x,hx,he⟩:=List.mem_map.1 hm
          left
          have:x.1=m:=by simpa using congrArg (fun q:PN=>q.1) he
          exact List.mem_map.2 ⟨x,hx,this⟩
        | m::k::q,_ =>
          right
          exact (h3 m).1 (fun h=>by have:=mem_subP hp; rw [h] at this; cases this)
      · rintro (h | h)
        · obtain ⟨x,hx,rfl⟩:=List.mem_map.1 h
          exact ⟨_,hfm x hx,rfl⟩
        · have:=(h3 u).2 h
          cases hs:subP u ps with
          | nil=>exact absurd hs this
          | cons r l =>
            obtain ⟨k,q,_,hm⟩:=subP_mem (show r ∈ subP u ps by rw [hs]; simp)
            exact ⟨_,hm,rfl⟩
    have hents:sortN (fileEs files++entsD dirs)=entsU f ps:=by
      refine sortN_ext (sortN_sort ?_) ?_ fun e=>?_
      · rw [List.map_append,entsD_map,fileEs,List.map_map,List.map_map]
        exact h4
      · unfold entsU
        show ((namesP ps).map (entU f ps)).Pairwise _
        rw [List.pairwise_map]
        exact (namesP_sort ps).imp fun h=>h
      · rw [(sortN_perm _).mem_iff,List.mem_append,entsD_map]
        unfold fileEs entsU
        simp only [List.mem_map]
        constructor
        · rintro (⟨x,hx,rfl⟩ | ⟨y,hy,rfl⟩)
          · exact ⟨x.1,(hnm _).2 (.inl (List.mem_map_of_mem hx)),(hef x hx).1⟩
          · exact ⟨y.1,(hnm _).2 (.inr (List.mem_map_of_mem hy)),(hed y hy).1⟩
        · rintro ⟨u,hu,rfl⟩
          rcases (hnm u).1 hu with h | h
          · obtain ⟨x,hx,rfl⟩:=List.mem_map.1 h
            exact .inl ⟨x,hx,(hef x hx).1.symm⟩
          · obtain ⟨y,hy,rfl⟩:=List.mem_map.1 h
            exact .inr ⟨y,hy,(hed y hy).1.symm⟩
    rw [idT,blocksT,dirI_succ,hents]
    refine ⟨rfl,fun b hb=>?_⟩
    rcases List.mem_append.1 hb with hb | hb
    · refine List.mem_append.2 (.inl ?_)
      unfold blksU
      rw [List.mem_flatten]
      rcases List.mem_append.1 hb with hb | hb
      · unfold fileBs at hb
        rw [List.mem_flatten] at hb
        obtain ⟨l,hl,hbl⟩:=hb
        obtain ⟨x,hx,rfl⟩:=List.mem_map.1 hl
        exact ⟨blkU f ps x.1,List.mem_map_of_mem ((hnm _).2 (.inl (List.mem_map_of_mem hx))),by rw [(hef x hx).2]; exact hbl⟩
      · rw [blocksDs_map,List.mem_flatten] at hb
        obtain ⟨l,hl,hbl⟩:=hb
        obtain ⟨y,hy,rfl⟩:=List.mem_map.1 hl
        exact ⟨blkU f ps y.1,List.mem_map_of_mem ((hnm _).2 (.inr (List.mem_map_of_mem hy))),by rw [(hed y hy).2]; exact (ih y hy).2 b hbl⟩
    · exact List.mem_append.2 (.inr hb)
open Go.RowKit
set_option maxRecDepth 8000
section
variable {P:Program}
theorem run_mulU8 (a b:UInt8) (t:TypeId) (x y:Operand) (w:World):((do eqGuard .mul t x y (bv a) (bv b); binOp .mul t (bv a) (bv b):Sem Value)).run P w = .ok (bv (a * b)) w:=by
  have:IntKind.u8.wrap ((a.toNat:Int) * (b.toNat:Int))=((a * b).toNat:Int):=by
    rw [u8_wrap,UInt8.toNat_mul]
    norm_cast
  simp [bv,eqGuard,binOp,Op.intArith,this]
end
theorem bs_setI (l:List UInt8) (i:Nat) (x:UInt8):(bs l).set i (bv x)=bs (l.set i x):=by simp [bs,List.map_set]
abbrev FV:=List Int × Value × Int × UInt8
def fv0:FV:=([],.slice none 0 0,0,0)
def fileC (f:FV):List Value:=[f.2.1,.int .i64 f.2.2.1,bv f.2.2.2]
abbrev rdFV (v:Value) (fs:List FV):HP:=rdR fileC 3 v fs
def datFV (fs:List FV):HP:=fun h=>∀ f ∈ fs,rdN f.2.1 f.1 h
theorem fvs_len (fs:List FV):∀ f ∈ fs,(fileC f).length=3:=fun _ _=>rfl
theorem fv_get {fs:List FV} {k j:Nat} (hk:k < fs.length) (hj:j < 3):(recC fileC fs)[k * 3 + j]?=(fileC (fs.getD k fv0))[j]?:=recC_at (d:=fv0) (fvs_len fs) hk hj
theorem fv_nv {fs:List FV} {k:Nat} (hk:k < fs.length):(recC fileC fs)[k * 3 + 0]?=some (fs.getD k fv0).2.1:=fv_get hk (by decide)
theorem fv_size {fs:List FV} {k:Nat} (hk:k < fs.length):(recC fileC fs)[k * 3 + 1]?=some (.int .i64 (fs.getD k fv0).2.2.1):=fv_get hk (by decide)
theorem fv_by {fs:List FV} {k:Nat} (hk:k < fs.length):(recC fileC fs)[k * 3 + 2]?=some (bv (fs.getD k fv0).2.2.2):=fv_get hk (by decide)
def itemsP (v:Value) (xs:List F3):HP:=fun h=>starL [rowR itC 2 38 v xs,datI xs] h
def PathOk (p:List UInt8):Prop:=∃ ls:List (List UInt8),ls≠[]∧(∀ n ∈ ls,n.length≤2∧(47:UInt8) ∉ n∧n≠[])∧p=jn ls
def Short3 (xs:List F3):Prop:=∀ x ∈ xs,x.1.length≤200∧x.2.2.length≤1100∧PathOk x.1
theorem Short3.snoc {xs:List F3} (h:Short3 xs) {x:F3} (h1:x.1.length≤200) (h2:x.2.2.length≤1100) (h3:PathOk x.1):Short3 (xs++[x]):=fun y hy=>by
  rcases List.mem_append.1 hy with hy | hy
  · exact h y hy
  · rw [List.mem_singleton.1 hy]; exact ⟨h1,h2,h3⟩
def five:List (List UInt8):=[[97],[98],[99],[100,100],[195,169]]
theorem five_len {m:Nat}:(five.getD m []).length≤2:=by
  by_cases h:m < 5
  · have:∀ k:Fin 5,(five.getD k.val []).length≤2:=by decide
    exact this ⟨m,h⟩
  · rw [List.getD_eq_getElem?_getD,List.getElem?_eq_none (show five.length≤m by show 5≤m; omega)]
    decide
theorem five_ok {m:Nat} (h:m < 5):(five.getD m []).length≤2∧(47:UInt8) ∉ five.getD m []∧five.getD m []≠[]:=by
  have:∀ k:Fin 5,(five.getD k.val []).length≤2∧(47:UInt8) ∉ five.getD k.val []∧five.getD k.val []≠[]:=by decide
  exact this ⟨m,h⟩
theorem z_ok {i:Nat} (h:i < 22):PathOk ([47,122]++[byte (97 + (i:Int))]):=by
  have:∀ k:Fin 22,(47:UInt8) ∉ [122,byte (97 + (k.val:Int))]:=by decide
  refine ⟨[[122,byte (97 + (i:Int))]],by simp,fun n hn=>?_,rfl⟩
  rw [List.mem_singleton.1 hn]
  exact ⟨by simp,this ⟨i,h⟩,by simp⟩
def PathY (y:List UInt8):Prop:=∃ ls:List (List UInt8),(∀ n ∈ ls,n.length≤2∧(47:UInt8) ∉ n∧n≠[])∧y=jn ls
theorem PathY.nil:PathY []:=⟨[],(fun n hn=>by cases hn),rfl⟩
theorem PathY.add {y:List UInt8} (h:PathY y) {m:Nat} (hm:m < 5):PathY (y++[47]++five.getD m []):=by
  obtain ⟨ls,h1,rfl⟩:=h
  refine ⟨ls++[five.getD m []],fun n hn=>?_,by simp [jn]⟩
  rcases List.mem_append.1 hn with hn | hn
  · exact h1 n hn
  · rw [List.mem_singleton.1 hn]; exact five_ok hm
theorem PathY.ok {y:List UInt8} (h:PathY y) (hy:(y == [])=false):PathOk y:=by
  obtain ⟨ls,h1,rfl⟩:=h
  refine ⟨ls,fun hc=>?_,h1,rfl⟩
  subst hc
  cases hy
theorem row_it {e:TypeId} {v:Value} {xs:List F3} {z:F3} {h:Hlt} (hp:rowP e 2 v (xs.length + 1) (recC itC xs++[itC z].flatten) h):rowR itC 2 e v (xs++[z]) h:=by
  unfold rowR
  rw [List.length_append,recC_append,recC_one]
  simpa using hp
theorem datI_add {xs:List F3} {p d:List UInt8} {v:Value} {t:TypeId} {h:Hlt} (hs:starL [datI xs,rowB t v d] h):datI (xs++[(p,v,d)]) h:=fun x hx=>by
  rcases List.mem_append.1 hx with hx | hx
  · exact starL_le hs (φ:=rdB x.2.1 x.2.2) 0 rfl fun h' h1 h2=>rdP_le h2 (h1 x hx)
  · rw [List.mem_singleton.1 hx]; exact starL_le hs (φ:=rdB v d) 1 rfl fun h' h1 h2=>rdP_le h2 (rp9 h1)
theorem W_openItems {P:Program} {E:Env} {n:Nat} {K:Slots} {L:Res} {Q:Exit→Act→World→Prop} {c:Code} (r b:Nat) {v:Value} {xs:List F3} (hr:look L r=some (itemsP v xs))
    (k:W P E n c K (En b [rowR itC 2 38 v xs,datI xs]++(r,emp)::L) Q):W P E n c K L Q:=W_split r b _ hr (fun h hp=>hp) k
theorem datI_star {Js:List HP} {P:HP} {xs:List F3} (k:Nat) (hk:Js[k]?=some P) (hp:∀ h,P h→datI xs h):∀ h,starL Js h→datI xs h:=fun h hs x hx=>rs9 k hk (fun h' hh=>hp h' hh x hx) h hs
abbrev T2:=List UInt8 × List UInt8
def tagF (x:F3):T2:=(x.1,x.2.2)
def pathK (ns:List Int):Nat→List UInt8
  | 0=>[]
  | k + 1=>pathK ns k++[47]++five.getD ((ns.getD k 0) % 5).toNat []
def dataK (f:FV) (q:Nat):Nat→List UInt8
  | 0=>List.replicate q 0
  | k + 1=>(dataK f q k).set k (f.2.2.2 + byte ((k:Int) / 64) * byte (f.2.2.1.tmod 3))
def pathC (f:FV) (i:Nat):List UInt8:=if pathK f.1 (min f.1.length 6)=[] then [47,122]++[byte (97 + (i:Int))] else pathK f.1 (min f.1.length 6)
def itemC (fs:List FV) (i:Nat):T2:=(pathC (fs.getD i fv0) i,dataK (fs.getD i fv0) ((fs.getD i fv0).2.2.1 % 1002).toNat ((fs.getD i fv0).2.2.1 % 1002).toNat)
def itemsC (fs:List FV):Nat→List T2
  | 0=>[]
  | i + 1=>itemsC fs i++[itemC fs i]
theorem items_spec9 (v:Value) (fs:List FV) (F:HP) (hF:∀ h,F h→rdFV v fs h) (hN:∀ h,F h→datFV fs h):CallsS Tryz.prog 20 #[v] F [] (fun r Ps=>∃ xs:List F3,xs.length≤22∧Short3 xs∧xs.map tagF=itemsC fs (min fs.length 22)∧Ps=[itemsP r xs]):=by
 refine callsS_enter Tryz.func20 rfl Tryz.ntmps20 (by simp) (fun E=>?_)
 refine Q9 (R9 (G9 rfl rfl (N9 (X9 (Q9 ?_)))))
 refine W_nilRow 3 38 2 ?_
 refine W_nilRow 4 5 1 ?_
 refine Wt9 (P':=datI []) 4 rfl (fun h _ p hp=>absurd hp (by simp)) ?_
 refine Wt9 (P':=rowR itC 2 38 (.slice none 0 0) []) 3 rfl (fun h hp=>hp) ?_
 refine R9 (G9 rfl rfl (N9 (X9 (Q9 (Q9 (R9 (G9 rfl rfl (N9 (X9 ?_)))))))))
 refine W_block ?_
 refine W_loop (α:=Nat × Value × List F3) (fun x=>[(0,v),(3,x.2.1),(4,.int .i64 (x.1:Int))]) (fun x=>[(0,F),(3,rowR itC 2 38 x.2.1 x.2.2),(4,datI x.2.2)]) (fun x=>x.1≤fs.length∧x.1≤22∧x.2.2.length≤x.1∧Short3 x.2.2∧x.2.2.map tagF=itemsC fs x.1) (fun x=>fs.length - x.1) ((0,.slice none 0 0,[])) ⟨Nat.zero_le _,Nat.zero_le _,Nat.le_refl _,fun q hq=>absurd hq (by simp),rfl⟩ (a9 rfl) (a9 rfl) (fun x hx=>?_)
 obtain ⟨hx,hx22,hxl,hxs,hxt⟩:=hx
 refine Q9 (Q9 (R9 (M9 rfl rfl (M9 rfl rfl (L9 rfl (Pl9 (r:=0) rfl Tryz.runUnderlying22 rfl rfl hF) (L9 rfl (Pn9 rfl rfl rfl (run_lss _ _ _ _ _ _)) (M9 rfl rfl (Lg9 rfl rfl rfl rfl (by decide) (fun hb=>(Pm9 rfl rfl)) (Lg9 rfl rfl rfl rfl (by decide) (fun hb=>(Pn9 rfl (ev_gv rfl hb) rfl (run_lss _ _ _ _ _ _))) (L9 rfl (Pu_and rfl rfl rfl) (N9 (X9 ?_))))))))))))
 refine C9 rfl (fun hc16=>?_) (fun hc16=>?_)
 ·
  have hlt:x.1 < fs.length∧x.1 < 22:=by simp only [Bool.and_eq_true,decide_eq_true_eq] at hc16; omega
  have hfm:fs.getD x.1 fv0 ∈ fs:=getD_mem' hlt.1
  have hfn:∀ h,F h→rdN (fs.getD x.1 fv0).2.1 (fs.getD x.1 fv0).1 h:=fun h hp=>hN h hp _ hfm
  refine K9 (X9 ?_)
  refine Q9 ?_
  refine W_block ?_
  refine Q9 (R9 (G9 rfl rfl (N9 (X9 (Q9 (Q9 (R9 (G9 rfl rfl (N9 (X9 ?_))))))))))
  refine W_block ?_
  refine W_loop (α:=Nat × List UInt8) (fun y=>[(0,v),(3,x.2.1),(4,.int .i64 (x.1:Int)),(5,sV y.2),(6,.int .i64 (y.1:Int))]) (fun y=>[(0,F),(3,rowR itC 2 38 x.2.1 x.2.2),(4,datI x.2.2)]) (fun y=>y.2.length≤3 * y.1∧y.1≤6∧PathY y.2∧y.1≤(fs.getD x.1 fv0).1.length∧y.2=pathK (fs.getD x.1 fv0).1 y.1) (fun y=>6 - y.1) ((0,[])) ⟨Nat.le_refl _,Nat.zero_le _,PathY.nil,Nat.zero_le _,rfl⟩ (a9 rfl) (a9 rfl) (fun y hy=>?_)
  obtain ⟨hy,hy6,hyp,hyl,hyk⟩:=hy
  refine Q9 (Q9 (R9 (M9 rfl rfl (M9 rfl rfl (M9 rfl rfl (L9 rfl (Pi9 (r:=0) rfl Tryz.runUnderlying22 Tryz.sizeOf97 rfl rfl rfl hF (by omega)) (L9 rfl (Pu_fieldAddrE (off:=0) rfl rfl (by kernel_rfl)) (L9 rfl (Py9 (r:=0) rfl Tryz.isAgg61 rfl rfl hF (fv_nv (k:=x.1) hlt.1)) (L9 rfl (Pl9 (r:=0) rfl Tryz.runUnderlying61 rfl rfl hfn) (L9 rfl (Pn9 rfl rfl rfl (run_lss _ _ _ _ _ _)) (M9 rfl rfl (Lg9 rfl rfl rfl rfl (by decide) (fun hb=>(Pm9 rfl rfl)) (Lg9 rfl rfl rfl rfl (by decide) (fun hb=>(Pn9 rfl (ev_gv rfl hb) rfl (run_lss _ _ _ _ _ _))) (L9 rfl (Pu_and rfl rfl rfl) (N9 (X9 ?_))))))))))))))))
  refine C9 rfl (fun hc30=>?_) (fun hc30=>?_)
  ·
   have hlty:y.1 < (fs.getD x.1 fv0).1.length∧y.1 < 6:=by simp only [Bool.and_eq_true,decide_eq_true_eq] at hc30; omega
   refine K9 (X9 ?_)
   refine Q9 ?_
   refine W_block ?_
   refine R9 (M9 rfl rfl (L9 rfl (Pn9 rfl rfl rfl (run_addL y.2 [47] _ _ _ (by rw [List.length_singleton]; omega))) (Lc9 rfl rfl (by decide) (OpT_buildOnes (r:=101) (ss five) rfl rfl Tryz.runUnderlying63 Tryz.sizeOf9 Tryz.zeroValue9 rfl rfl (by decide) rfl (ss_cells _) (fun v35=>?_)))))
   refine Lt9 (P':=rowS 9 v35 five) (r:=101) rfl (fun h hp=>hp) ?_
   refine (M9 rfl rfl (M9 rfl rfl (L9 rfl (Pi9 (r:=0) rfl Tryz.runUnderlying22 Tryz.sizeOf97 rfl rfl rfl hF (by omega)) (L9 rfl (Pu_fieldAddrE (off:=0) rfl rfl (by kernel_rfl)) (L9 rfl (Py9 (r:=0) rfl Tryz.isAgg61 rfl rfl hF (fv_nv (k:=x.1) hlt.1)) (M9 rfl rfl (L9 rfl (Pu_idxS1 (r:=0) rfl Tryz.runUnderlying61 Tryz.sizeOf3 rfl rfl rfl hfn (by omega)) (L9 rfl (Py9 (r:=0) rfl Tryz.isAgg3 rfl rfl hfn (is_at (k:=y.1) hlty.1)) (Lc9 rfl rfl (by decide) (Oc9 200 [0,3,4,101] [] rfl Tryz.call15 rfl rfl rfl (by decide) (by decide) (within_spec ((fs.getD x.1 fv0).1.getD y.1 0) 5 (by omega) (by omega) _) (fun v44 Ps44 hR44=>?_)))))))))))
   obtain ⟨rfl,rfl⟩:=hR44
   obtain ⟨m,hm,hm5⟩:∃ m:Nat,((fs.getD x.1 fv0).1.getD y.1 0) % 5=(m:Int)∧m < 5:=⟨(((fs.getD x.1 fv0).1.getD y.1 0) % 5).toNat,by omega,by omega⟩
   rw [hm]
   refine (L9 rfl (Pu_idxS1 (r:=101) rfl Tryz.runUnderlying63 Tryz.sizeOf9 rfl rfl rfl rowS_rd (by show 0≤_∧_ < (5:Int); omega)) (L9 rfl (Py9 (r:=101) rfl Tryz.isAgg9 rfl rfl rowS_rd (ss_at (k:=m) (show m < 5 from hm5))) (L9 rfl (Pn9 rfl rfl rfl (run_addL (y.2++[47]) (five.getD m []) _ _ _ (by have:=five_len (m:=m); rw [List.length_append,List.length_singleton]; omega))) (G9 rfl rfl (N9 (X_block (X9 ?_)))))))
   refine R9 (M9 rfl rfl (L9 rfl (Pn9 rfl rfl rfl (run_add _ _ _ _ _ (by omega))) (G9 rfl rfl (N9 ?_))))
   exact Xr9 (y.1 + 1,y.2++[47]++five.getD m []) ⟨by dsimp only; rw [List.length_append,List.length_append,List.length_singleton]; have:=five_len (m:=m); omega,by dsimp only; omega,hyp.add hm5,by dsimp only; omega,by dsimp only; rw [pathK,← hyk,hm]; rfl⟩ (by dsimp only; omega) (a9 rfl) (a9 rfl)
  ·
   have hye:y.1=min (fs.getD x.1 fv0).1.length 6:=by simp only [Bool.and_eq_false_iff,decide_eq_false_iff_not] at hc30; omega
   have hyk2:pathK (fs.getD x.1 fv0).1 (min (fs.getD x.1 fv0).1.length 6)=y.2:=by rw [← hye]; exact hyk.symm
   refine W_exit (X_then_exit (X_then_exit (X_block_exit (X9 ?_))))
   refine Q9 (Q9 (R9 (M9 rfl rfl (L9 rfl (Pn9 rfl rfl rfl (run_strEq y.2 [] _ _ _)) (N9 (X9 ?_))))))
   refine C9 rfl (fun hc49=>?_) (fun hc49=>?_)
   ·
    have hpc:pathC (fs.getD x.1 fv0) x.1=[47,122]++[byte (97 + (x.1:Int))]:=by unfold pathC; rw [hyk2,if_pos (eq_of_beq hc49)]
    refine R9 (M9 rfl rfl (L9 rfl (Pn9 rfl rfl rfl (run_add _ _ _ _ _ (by omega))) (L9 rfl (Pu_conv rfl rfl (conv_byte _ _ Tryz.runUnderlying3 Tryz.runUnderlying5)) (Lc9 rfl rfl (by decide) (OpT_buildOnes (r:=101) (bs [byte (97 + (x.1:Int))]) rfl rfl Tryz.runUnderlying36 Tryz.sizeOf5 Tryz.zeroValue5 rfl rfl (by decide) rfl (bs_cells _) (fun v53=>?_))))))
    refine Lt9 (P':=rowB 5 v53 [byte (97 + (x.1:Int))]) (r:=101) rfl (fun h hp=>hp) ?_
    refine (L9 rfl (Pu_convBS (r:=101) rfl Tryz.underlying36 Tryz.underlying5 Tryz.underlying9 rfl rfl rowB_rd) (L9 rfl (Pn9 rfl rfl rfl (run_addL [47,122] [byte (97 + (x.1:Int))] _ _ _ (by show (3:Nat)≤_; decide))) (G9 rfl rfl (N9 (X9 ?_)))))
    refine Q9 (R9 (M9 rfl rfl (M9 rfl rfl (L9 rfl (Pi9 (r:=0) rfl Tryz.runUnderlying22 Tryz.sizeOf97 rfl rfl rfl hF (by omega)) (L9 rfl (Pu_fieldAddrE (off:=1) rfl rfl (by kernel_rfl)) (L9 rfl (Py9 (r:=0) rfl Tryz.isAgg3 rfl rfl hF (fv_size (k:=x.1) hlt.1)) (Lc9 rfl rfl (by decide) (Oc9 200 [0,3,4,101] [] rfl Tryz.call15 rfl rfl rfl (by decide) (by decide) (within_spec (fs.getD x.1 fv0).2.2.1 1002 (by omega) (by omega) _) (fun v61 Ps61 hR61=>?_)))))))))
    obtain ⟨rfl,rfl⟩:=hR61
    obtain ⟨q,hq,hq2⟩:∃ q:Nat,(fs.getD x.1 fv0).2.2.1 % 1002=(q:Int)∧q < 1002:=⟨((fs.getD x.1 fv0).2.2.1 % 1002).toNat,by omega,by omega⟩
    rw [hq]
    refine (Lc9 rfl rfl (by decide) (OpT_make (r:=201) (m:=q) rfl Tryz.underlying36 TI.hi5 TI.hz5 TI.hs5 rfl rfl (by rw [TI.hby5]; omega) (by unfold maxLen; omega) ((made_one _ _).trans (made_bytes q)) (fun v62=>?_)))
    refine Lt9 (P':=rowB 5 v62 (List.replicate q 0)) (r:=201) rfl (fun h hp=>rowB_mk hp (by rw [List.length_replicate]) rfl) ?_
    refine (G9 rfl rfl (N9 (X9 ?_)))
    refine Q9 (Q9 (R9 (G9 rfl rfl (N9 (X9 ?_)))))
    refine W_block ?_
    refine W_loop (α:=Nat × List UInt8) (fun z=>[(0,v),(3,x.2.1),(4,.int .i64 (x.1:Int)),(5,sV ([47,122]++[byte (97 + (x.1:Int))])),(7,v62),(8,.int .i64 (z.1:Int))]) (fun z=>[(0,F),(3,rowR itC 2 38 x.2.1 x.2.2),(4,datI x.2.2),(201,rowB 5 v62 z.2)]) (fun z=>z.2.length=q∧z.1≤q∧z.2=dataK (fs.getD x.1 fv0) q z.1) (fun z=>q - z.1) ((0,List.replicate q 0)) ⟨List.length_replicate,Nat.zero_le _,rfl⟩ (a9 rfl) (a9 rfl) (fun z hz=>?_)
    obtain ⟨hz,hzq,hzk⟩:=hz
    refine Q9 (Q9 (R9 (M9 rfl rfl (M9 rfl rfl (L9 rfl (Pl9 (r:=201) rfl Tryz.runUnderlying36 rfl rfl (fun _ h=>rp9 h)) (L9 rfl (Pn9 rfl rfl rfl (run_lss _ _ _ _ _ _)) (N9 (X9 ?_))))))))
    refine C9 rfl (fun hc66=>?_) (fun hc66=>?_)
    ·
     have hltz:z.1 < z.2.length:=by have:=of_decide_eq_true hc66; omega
     refine K9 (X9 ?_)
     refine Q9 ?_
     refine W_block ?_
     refine W_draw (N:=21) (by kernel_rfl) rfl [(0,_)] ⟨rfl,trivial⟩ ?_
     refine (T9 0 rfl rfl (Pm9 rfl rfl) (T9 1 rfl rfl (Pm9 rfl rfl) (T9 2 rfl rfl (Pm9 rfl rfl) (T9 3 rfl rfl (Pm9 rfl rfl) (T9 4 rfl rfl (Pi9 (r:=0) rfl Tryz.runUnderlying22 Tryz.sizeOf97 rfl rfl rfl hF (by omega)) (T9 5 rfl rfl (Pu_fieldAddrE (off:=2) rfl rfl (by kernel_rfl)) (T9 6 rfl rfl (Py9 (r:=0) rfl Tryz.isAgg5 rfl rfl hF (fv_by (k:=x.1) hlt.1)) (T9 7 rfl rfl (Pm9 rfl rfl) (T9 8 rfl rfl (Pn9 rfl rfl rfl (run_quo _ _ _ _ _ (by omega))) (T9 9 rfl rfl (Pu_conv rfl rfl (conv_byte _ _ Tryz.runUnderlying3 Tryz.runUnderlying5)) (T9 10 rfl rfl (Pm9 rfl rfl) (T9 11 rfl rfl (Pm9 rfl rfl) (T9 12 rfl rfl (Pi9 (r:=0) rfl Tryz.runUnderlying22 Tryz.sizeOf97 rfl rfl rfl hF (by omega)) (T9 13 rfl rfl (Pu_fieldAddrE (off:=1) rfl rfl (by kernel_rfl)) (T9 14 rfl rfl (Py9 (r:=0) rfl Tryz.isAgg3 rfl rfl hF (fv_size (k:=x.1) hlt.1)) (T9 15 rfl rfl (Pn9 rfl rfl rfl (run_tmod _ _ _ _ _ (by omega))) (T9 16 rfl rfl (Pu_conv rfl rfl (conv_byte _ _ Tryz.runUnderlying3 Tryz.runUnderlying5)) (T9 17 rfl rfl (Pn9 rfl rfl rfl (run_mulU8 _ _ _ _ _)) (T9 18 rfl rfl (Pn9 rfl rfl rfl (run_addU8 _ _ _ _ _)) (Y9 [19] ?_))))))))))))))))))))
     refine Z9 rfl rfl (Or9 (Pu_idxS1 (r:=201) rfl Tryz.runUnderlying36 Tryz.sizeOf5 rfl rfl rfl (fun _ h=>rp9 h) (by omega)) ⟨⟨rfl,trivial⟩,?_⟩) ?_
     ·
      refine (Y9 [20] ?_)
      refine Ac09 rfl rfl rfl (OpT_storeS1 (r:=201) rfl Tryz.sizeOf5 rfl rfl rfl rfl (by show _ < (bs z.2).length; rw [bs_length]; omega) rfl ?_) ?_
      ·
       refine ⟨⟨rfl,trivial⟩,?_⟩
       refine AH_turn (P':=rowB 5 v62 (z.2.set z.1 ((fs.getD x.1 fv0).2.2.2 + byte ((z.1:Int) / 64) * byte ((fs.getD x.1 fv0).2.2.1.tmod 3)))) 201 rfl (fun h hp=>rowB_mk hp (by rw [List.length_set]) (by rw [← bs_setI]; rfl)) ?_
       refine (Ad9 (by kernel_rfl) (X_block (X9 ?_)))
       refine R9 (M9 rfl rfl (L9 rfl (Pn9 rfl rfl rfl (run_add _ _ _ _ _ (by omega))) (G9 rfl rfl (N9 ?_))))
       exact Xr9 (z.1 + 1,z.2.set z.1 ((fs.getD x.1 fv0).2.2.2 + byte ((z.1:Int) / 64) * byte ((fs.getD x.1 fv0).2.2.1.tmod 3))) ⟨by dsimp only; rw [List.length_set]; exact hz,by dsimp only; omega,by dsimp only; rw [dataK,← hzk]⟩ (by dsimp only; omega) (a9 rfl) (a9 rfl)
      exact An9
     exact An9
    ·
     have hze:z.1=q:=by have:=of_decide_eq_false hc66; omega
     have hic:itemC fs x.1=([47,122]++[byte (97 + (x.1:Int))],z.2):=by unfold itemC; rw [hpc,hq,Int.toNat_natCast,hzk,hze]
     refine W_exit (X_then_exit (X_then_exit (X_block_exit (X9 ?_))))
     refine W_fact (r:=201) rfl (fun h hp=>rd_one (rowB_rd h hp)) (fun (ho62:v62.oneCell'=true)=>?_)
     refine R9 (M9 rfl rfl (M9 rfl rfl (M9 rfl rfl (L9 rfl (Pu_build (V:=.agg (itC ([47,122]++[byte (97 + (x.1:Int))],v62,z.2)).toArray) [(0,1),(1,1)] ([sV [],.slice none 0 0]) rfl rfl (by kernel_rfl) (by kernel_rfl) (.one rfl rfl (by show 0 < 2; decide) rfl (.one rfl ho62 (by show 1 < 2; decide) rfl (.nil _))) rfl) (Lc9 rfl rfl (by decide) (OpT_buildRows (r:=202) [itC ([47,122]++[byte (97 + (x.1:Int))],v62,z.2)] rfl rfl Tryz.runUnderlying24 Tryz.sizeOf38 Tryz.zeroValue38 rfl (by decide) rfl (by decide) (by intro r hr; simp at hr; rw [hr]; rfl) rfl (fun v93=>(Lc9 rfl rfl (by decide) (Oa9 (r:=3) (r2:=202) rfl Tryz.underlying24 TI.hi38 TI.hz38 TI.hs38 TI.hby38 TI.hzs38 (by decide) rfl rfl rfl rfl (fun _ h=>rp9 h) (by rw [List.flatten_cons,List.flatten_nil,List.append_nil]; exact itC_one ho62) (by unfold maxLen; omega) (by omega) (fun v94=>?_))))))))))
     refine Lt9 (P':=rowR itC 2 38 v94 (x.2.2++[([47,122]++[byte (97 + (x.1:Int))],v62,z.2)])) (r:=3) rfl (fun h hp=>row_it hp) ?_
     refine (G9 rfl rfl (N9 (X_block (X9 ?_))))
     refine R9 (M9 rfl rfl (L9 rfl (Pn9 rfl rfl rfl (run_add _ _ _ _ _ (by omega))) (G9 rfl rfl (N9 ?_))))
     refine X_join [4,201] 4 (datI (x.2.2++[([47,122]++[byte (97 + (x.1:Int))],v62,z.2)])) rfl (by decide) (fun h hs=>datI_add hs) ?_
     exact Xr9 (x.1 + 1,v94,x.2.2++[([47,122]++[byte (97 + (x.1:Int))],v62,z.2)]) ⟨by dsimp only; omega,by dsimp only; omega,by dsimp only; rw [List.length_append,List.length_singleton]; omega,hxs.snoc (by simp) (by dsimp only; omega) (by dsimp only; exact z_ok hlt.2),by dsimp only; rw [List.map_append,hxt,itemsC,hic]; rfl⟩ (by dsimp only; omega) (a9 rfl) (a9 rfl)
   ·
    have hpc:pathC (fs.getD x.1 fv0) x.1=y.2:=by unfold pathC; rw [hyk2,if_neg (fun hc=>by rw [hc] at hc49; cases hc49)]
    refine K9 (X9 ?_)
    refine Q9 (R9 (M9 rfl rfl (M9 rfl rfl (L9 rfl (Pi9 (r:=0) rfl Tryz.runUnderlying22 Tryz.sizeOf97 rfl rfl rfl hF (by omega)) (L9 rfl (Pu_fieldAddrE (off:=1) rfl rfl (by kernel_rfl)) (L9 rfl (Py9 (r:=0) rfl Tryz.isAgg3 rfl rfl hF (fv_size (k:=x.1) hlt.1)) (Lc9 rfl rfl (by decide) (Oc9 200 [0,3,4] [] rfl Tryz.call15 rfl rfl rfl (by decide) (by decide) (within_spec (fs.getD x.1 fv0).2.2.1 1002 (by omega) (by omega) _) (fun v61 Ps61 hR61=>?_)))))))))
    obtain ⟨rfl,rfl⟩:=hR61
    obtain ⟨q,hq,hq2⟩:∃ q:Nat,(fs.getD x.1 fv0).2.2.1 % 1002=(q:Int)∧q < 1002:=⟨((fs.getD x.1 fv0).2.2.1 % 1002).toNat,by omega,by omega⟩
    rw [hq]
    refine (Lc9 rfl rfl (by decide) (OpT_make (r:=201) (m:=q) rfl Tryz.underlying36 TI.hi5 TI.hz5 TI.hs5 rfl rfl (by rw [TI.hby5]; omega) (by unfold maxLen; omega) ((made_one _ _).trans (made_bytes q)) (fun v62=>?_)))
    refine Lt9 (P':=rowB 5 v62 (List.replicate q 0)) (r:=201) rfl (fun h hp=>rowB_mk hp (by rw [List.length_replicate]) rfl) ?_
    refine (G9 rfl rfl (N9 (X9 ?_)))
    refine Q9 (Q9 (R9 (G9 rfl rfl (N9 (X9 ?_)))))
    refine W_block ?_
    refine W_loop (α:=Nat × List UInt8) (fun z=>[(0,v),(3,x.2.1),(4,.int .i64 (x.1:Int)),(5,sV (y.2)),(7,v62),(8,.int .i64 (z.1:Int))]) (fun z=>[(0,F),(3,rowR itC 2 38 x.2.1 x.2.2),(4,datI x.2.2),(201,rowB 5 v62 z.2)]) (fun z=>z.2.length=q∧z.1≤q∧z.2=dataK (fs.getD x.1 fv0) q z.1) (fun z=>q - z.1) ((0,List.replicate q 0)) ⟨List.length_replicate,Nat.zero_le _,rfl⟩ (a9 rfl) (a9 rfl) (fun z hz=>?_)
    obtain ⟨hz,hzq,hzk⟩:=hz
    refine Q9 (Q9 (R9 (M9 rfl rfl (M9 rfl rfl (L9 rfl (Pl9 (r:=201) rfl Tryz.runUnderlying36 rfl rfl (fun _ h=>rp9 h)) (L9 rfl (Pn9 rfl rfl rfl (run_lss _ _ _ _ _ _)) (N9 (X9 ?_))))))))
    refine C9 rfl (fun hc66=>?_) (fun hc66=>?_)
    ·
     have hltz:z.1 < z.2.length:=by have:=of_decide_eq_true hc66; omega
     refine K9 (X9 ?_)
     refine Q9 ?_
     refine W_block ?_
     refine W_draw (N:=21) (by kernel_rfl) rfl [(0,_)] ⟨rfl,trivial⟩ ?_
     refine (T9 0 rfl rfl (Pm9 rfl rfl) (T9 1 rfl rfl (Pm9 rfl rfl) (T9 2 rfl rfl (Pm9 rfl rfl) (T9 3 rfl rfl (Pm9 rfl rfl) (T9 4 rfl rfl (Pi9 (r:=0) rfl Tryz.runUnderlying22 Tryz.sizeOf97 rfl rfl rfl hF (by omega)) (T9 5 rfl rfl (Pu_fieldAddrE (off:=2) rfl rfl (by kernel_rfl)) (T9 6 rfl rfl (Py9 (r:=0) rfl Tryz.isAgg5 rfl rfl hF (fv_by (k:=x.1) hlt.1)) (T9 7 rfl rfl (Pm9 rfl rfl) (T9 8 rfl rfl (Pn9 rfl rfl rfl (run_quo _ _ _ _ _ (by omega))) (T9 9 rfl rfl (Pu_conv rfl rfl (conv_byte _ _ Tryz.runUnderlying3 Tryz.runUnderlying5)) (T9 10 rfl rfl (Pm9 rfl rfl) (T9 11 rfl rfl (Pm9 rfl rfl) (T9 12 rfl rfl (Pi9 (r:=0) rfl Tryz.runUnderlying22 Tryz.sizeOf97 rfl rfl rfl hF (by omega)) (T9 13 rfl rfl (Pu_fieldAddrE (off:=1) rfl rfl (by kernel_rfl)) (T9 14 rfl rfl (Py9 (r:=0) rfl Tryz.isAgg3 rfl rfl hF (fv_size (k:=x.1) hlt.1)) (T9 15 rfl rfl (Pn9 rfl rfl rfl (run_tmod _ _ _ _ _ (by omega))) (T9 16 rfl rfl (Pu_conv rfl rfl (conv_byte _ _ Tryz.runUnderlying3 Tryz.runUnderlying5)) (T9 17 rfl rfl (Pn9 rfl rfl rfl (run_mulU8 _ _ _ _ _)) (T9 18 rfl rfl (Pn9 rfl rfl rfl (run_addU8 _ _ _ _ _)) (Y9 [19] ?_))))))))))))))))))))
     refine Z9 rfl rfl (Or9 (Pu_idxS1 (r:=201) rfl Tryz.runUnderlying36 Tryz.sizeOf5 rfl rfl rfl (fun _ h=>rp9 h) (by omega)) ⟨⟨rfl,trivial⟩,?_⟩) ?_
     ·
      refine (Y9 [20] ?_)
      refine Ac09 rfl rfl rfl (OpT_storeS1 (r:=201) rfl Tryz.sizeOf5 rfl rfl rfl rfl (by show _ < (bs z.2).length; rw [bs_length]; omega) rfl ?_) ?_
      ·
       refine ⟨⟨rfl,trivial⟩,?_⟩
       refine AH_turn (P':=rowB 5 v62 (z.2.set z.1 ((fs.getD x.1 fv0).2.2.2 + byte ((z.1:Int) / 64) * byte ((fs.getD x.1 fv0).2.2.1.tmod 3)))) 201 rfl (fun h hp=>rowB_mk hp (by rw [List.length_set]) (by rw [← bs_setI]; rfl)) ?_
       refine (Ad9 (by kernel_rfl) (X_block (X9 ?_)))
       refine R9 (M9 rfl rfl (L9 rfl (Pn9 rfl rfl rfl (run_add _ _ _ _ _ (by omega))) (G9 rfl rfl (N9 ?_))))
       exact Xr9 (z.1 + 1,z.2.set z.1 ((fs.getD x.1 fv0).2.2.2 + byte ((z.1:Int) / 64) * byte ((fs.getD x.1 fv0).2.2.1.tmod 3))) ⟨by dsimp only; rw [List.length_set]; exact hz,by dsimp only; omega,by dsimp only; rw [dataK,← hzk]⟩ (by dsimp only; omega) (a9 rfl) (a9 rfl)
      exact An9
     exact An9
    ·
     have hze:z.1=q:=by have:=of_decide_eq_false hc66; omega
     have hic:itemC fs x.1=(y.2,z.2):=by unfold itemC; rw [hpc,hq,Int.toNat_natCast,hzk,hze]
     refine W_exit (X_then_exit (X_then_exit (X_block_exit (X9 ?_))))
     refine W_fact (r:=201) rfl (fun h hp=>rd_one (rowB_rd h hp)) (fun (ho62:v62.oneCell'=true)=>?_)
     refine R9 (M9 rfl rfl (M9 rfl rfl (M9 rfl rfl (L9 rfl (Pu_build (V:=.agg (itC (y.2,v62,z.2)).toArray) [(0,1),(1,1)] ([sV [],.slice none 0 0]) rfl rfl (by kernel_rfl) (by kernel_rfl) (.one rfl rfl (by show 0 < 2; decide) rfl (.one rfl ho62 (by show 1 < 2; decide) rfl (.nil _))) rfl) (Lc9 rfl rfl (by decide) (OpT_buildRows (r:=202) [itC (y.2,v62,z.2)] rfl rfl Tryz.runUnderlying24 Tryz.sizeOf38 Tryz.zeroValue38 rfl (by decide) rfl (by decide) (by intro r hr; simp at hr; rw [hr]; rfl) rfl (fun v93=>(Lc9 rfl rfl (by decide) (Oa9 (r:=3) (r2:=202) rfl Tryz.underlying24 TI.hi38 TI.hz38 TI.hs38 TI.hby38 TI.hzs38 (by decide) rfl rfl rfl rfl (fun _ h=>rp9 h) (by rw [List.flatten_cons,List.flatten_nil,List.append_nil]; exact itC_one ho62) (by unfold maxLen; omega) (by omega) (fun v94=>?_))))))))))
     refine Lt9 (P':=rowR itC 2 38 v94 (x.2.2++[(y.2,v62,z.2)])) (r:=3) rfl (fun h hp=>row_it hp) ?_
     refine (G9 rfl rfl (N9 (X_block (X9 ?_))))
     refine R9 (M9 rfl rfl (L9 rfl (Pn9 rfl rfl rfl (run_add _ _ _ _ _ (by omega))) (G9 rfl rfl (N9 ?_))))
     refine X_join [4,201] 4 (datI (x.2.2++[(y.2,v62,z.2)])) rfl (by decide) (fun h hs=>datI_add hs) ?_
     exact Xr9 (x.1 + 1,v94,x.2.2++[(y.2,v62,z.2)]) ⟨by dsimp only; omega,by dsimp only; omega,by dsimp only; rw [List.length_append,List.length_singleton]; omega,hxs.snoc (by dsimp only; omega) (by dsimp only; omega) (by dsimp only; exact hyp.ok hc49),by dsimp only; rw [List.map_append,hxt,itemsC,hic]; rfl⟩ (by dsimp only; omega) (a9 rfl) (a9 rfl)
 ·
  have hxe:x.1=min fs.length 22:=by simp only [Bool.and_eq_false_iff,decide_eq_false_iff_not] at hc16; omega
  refine W_exit (X_then_exit (X_then_exit (X_block_exit (X9 ?_))))
  refine Q9 (R9 (M9 rfl rfl (G9 rfl rfl (N9 (X9 ?_)))))
  refine W_ret ?_
  refine X_join [3,4] 3 (itemsP x.2.1 x.2.2) rfl (by decide) (fun h hs=>hs) ?_
  exact Xq9 [3] (Ps:=[_]) (res1 Tryz.results20 rfl) rfl (by decide) ⟨x.2.2,by omega,hxs,by rw [hxt,hxe],rfl⟩
open Go.RowKit
theorem sub_len {α:Type}:∀ {l m:List α},l.Nodup→(∀ x ∈ l,x ∈ m)→l.length≤m.length
  | [],m,_,_=>Nat.zero_le _
  | x::l,m,hn,hs=>by
    obtain ⟨a,b,rfl⟩:=List.append_of_mem (hs x (by simp))
    rw [List.nodup_cons] at hn
    have:=sub_len (l:=l) (m:=a++b) hn.2 fun y hy=>by
      rcases List.mem_append.1 (hs y (by simp [hy])) with h | h
      · simp [h]
      · rcases List.mem_cons.1 h with rfl | h
        · exact absurd hy hn.1
        · simp [h]
    simp only [List.length_cons,List.length_append] at this ⊢
    omega
theorem innerR_lem {l:List (List UInt8)} (hl:Ids l):(innerR l).length≤1000:=by
  unfold innerR
  split
  · rename_i h
    have h8:l.length≤8:=by
      unfold innerE at h
      split at h
      · omega
      · split at h
        · omega
        · omega
    unfold innerTo
    rw [List.take_length,List.length_append,flat_ids hl]
    simp
    omega
  · simp
theorem above_small_b:∀ (f:Nat) (l:List (List UInt8)),Ids l→∀ b ∈ (above f l).1,b.length≤1000
  | 0,l,_,b,hb=>by rw [above] at hb; cases hb
  | f + 1,l,hl,b,hb=>by
    by_cases h1:1 < l.length
    · rw [above_big h1] at hb
      rcases List.mem_append.1 hb with hb | hb
      · unfold rowsI at hb
        obtain ⟨j,_,rfl⟩:=List.mem_map.1 hb
        exact innerR_lem fun x hx=>hl x (List.mem_of_mem_drop (List.mem_of_mem_take hx))
      · exact above_small_b f _ (ids_sha _) b hb
    · rw [above_small h1] at hb
      cases hb
theorem above_ids:∀ (f:Nat) (l:List (List UInt8)),Ids l→Ids (above f l).2.2
  | 0,l,h=>h
  | f + 1,l,h=>by
    by_cases hb:1 < l.length
    · rw [above_big hb]; exact above_ids f _ (ids_sha _)
    · rw [above_small hb]; exact h
theorem topF_len32 (d:List UInt8):(topF d).length=32:=by
  have h:=above_ids (d.length + 1) ((rowsD d).map sha) (ids_sha _)
  unfold topF aboveD
  cases ht:(above (d.length + 1) ((rowsD d).map sha)).2.2 with
  | nil=>exact zeroId_length
  | cons x r=>rw [ht] at h; exact h x (by simp)
theorem blocksF_small {k:Int} {d b:List UInt8} (hb:b ∈ blocksF k d):b.length≤1000:=by
  unfold blocksF at hb
  rcases List.mem_append.1 hb with hb | hb
  · rcases List.mem_append.1 hb with hb | hb
    · unfold rowsD at hb
      obtain ⟨j,_,rfl⟩:=List.mem_map.1 hb
      unfold blkD
      rw [List.length_cons,List.length_take]
      omega
    · exact above_small_b _ _ (ids_sha _) b hb
  · rw [List.mem_singleton.1 hb]
    have:=inodeR_len k (d.length:Int) ((aboveD d).2.1:Int) (topF d) (by rw [topF_len32])
    unfold nodeF
    omega
mutual
theorem blocksT_small:∀ (T:HT) (b:List UInt8),b ∈ blocksT T→b.length≤1000
  | .mk _ _ _ dirs files,b,hb=>by
    rw [blocksT] at hb
    rcases List.mem_append.1 hb with hb | hb
    · rcases List.mem_append.1 hb with hb | hb
      · unfold fileBs at hb
        rw [List.mem_flatten] at hb
        obtain ⟨l,hl,hbl⟩:=hb
        obtain ⟨x,_,rfl⟩:=List.mem_map.1 hl
        exact blocksF_small hbl
      · exact blocksDs_small dirs b hb
    · exact blocksF_small hb
theorem blocksDs_small:∀ (ds:List (List UInt8 × HT)) (b:List UInt8),b ∈ blocksDs ds→b.length≤1000
  | [],b,hb=>by rw [blocksDs] at hb; cases hb
  | d::ds,b,hb=>by
    rw [blocksDs] at hb
    rcases List.mem_append.1 hb with hb | hb
    · exact blocksT_small d.2 b hb
    · exact blocksDs_small ds b hb
end
theorem buildE_wrong {xs:List F3} (h:buildE xs=0):xs.length≤20∧∀ x ∈ xs,wrongI x.1 x.2.2=0:=by
  unfold buildE at h
  split at h
  · cases h
  · split at h
    · rename_i h1 h2; exact absurd h h2
    · rename_i h1 h2
      exact ⟨by omega,firstW_zero (by cases hh:decide (firstW xs=0) with
        | true=>exact of_decide_eq_true hh
        | false=>exact absurd (of_decide_eq_false hh) h2)⟩
theorem parts_ok {xs:List F3} (h:buildE xs=0):(partsN xs).length≤20∧(∀ p ∈ partsN xs,p.2.length≤1000∧p.1.length≤5):=by
  obtain ⟨h1,h2⟩:=buildE_wrong h
  refine ⟨by unfold partsN; rw [List.length_map]; exact h1,fun p hp=>?_⟩
  unfold partsN at hp
  obtain ⟨x,hx,rfl⟩:=List.mem_map.1 hp
  obtain ⟨h3,_,h5⟩:=wrongI_zero (h2 x hx)
  exact ⟨h5,splitN_five h3⟩
theorem tree_len {xs:List F3} {T:HT} (hf:Filled xs T) (h:buildE xs=0) {l:List TB} (ht:TreeOf (blocksT T) l):l.length≤bnd 5:=by
  obtain ⟨h1,h2⟩:=parts_ok h
  have hr:=rel_dir 4 T _ hf.rel (fun p hp=>(h2 p hp).2)
  have hn:(l.map (·.1)).Nodup:=by
    have:=ht.sorted
    refine List.Pairwise.map _ (fun a b hab=>?_) this
    intro hc
    rw [hc,ltK_irrefl] at hab
    cases hab
  have hl:=sub_len (m:=(dirI 5 (partsN xs)).2.map sha) hn fun k hk=>by
    obtain ⟨p,hp,rfl⟩:=List.mem_map.1 hk
    obtain ⟨h3,h4,_⟩:=ht.from_ p hp
    rw [h3]
    exact List.mem_map_of_mem (hr.2 _ h4)
  rw [List.length_map,List.length_map] at hl
  exact Nat.le_trans hl (dirI_le 5 _ h1 fun p hp=>by have:=(h2 p hp).1; omega)
theorem tree_small {xs:List F3} {T:HT} (hf:Filled xs T) (h:buildE xs=0) (hxl:xs.length≤20) (hxs:Short3 xs) {l:List TB} (ht:TreeOf (blocksT T) l) {es:List EB} (he:es.map toTB=l):es.length≤1000000000000∧∀ b ∈ es,b.2.length≤1000000000:=by
  refine ⟨?_,fun b hb=>?_⟩
  · have h1:=tree_len hf h ht
    have h2:=congrArg List.length he
    rw [List.length_map] at h2
    have h3:bnd 5≤1000000000000:=by decide
    omega
  · have:toTB b ∈ l:=by rw [← he]; exact List.mem_map_of_mem hb
    have h3:=(ht.from_ _ this).2.1
    have:=blocksT_small T _ h3
    show (toTB b).2.1.length≤_
    omega
open Go.RowKit
set_option maxRecDepth 8000
theorem finP20 (acc:List Ent):(finP acc).1.length≤20:=by
  unfold finP
  split
  · simp
  · rename_i h
    have h:dirE acc=0:=Classical.byContradiction h
    unfold dirE at h
    split at h
    · rename_i h1; exact absurd h h1
    · split at h
      · cases h
      · split at h
        · cases h
        · show acc.length≤20; omega
theorem parF20:∀ (f:Nat) (b:List UInt8) (acc:List Ent),(parF f b acc).1.length≤20
  | 0,_,acc=>by rw [parF]; exact finP20 acc
  | f + 1,b,acc=>by
    rw [parF]
    split
    · exact finP20 acc
    · split
      · simp
      · exact parF20 f _ _
theorem dirV20 (V:VW) (n:Nd):(dirV V n).1.length≤20:=by
  unfold dirV
  split
  · simp
  · split
    · simp
    · exact parF20 _ _ _
def cR:Nat→Nat
  | 0=>1
  | l + 1=>1 + 8 * cR l
theorem kidsW_len {f:List UInt8→Nat→List (List UInt8) × Bool} {c:Nat} (hf:∀ x s,(f x s).1.length≤c) (each size:Nat):∀ (l:List (List UInt8)) (i:Nat),(kidsW f each size i l).1.length≤l.length * c
  | [],i=>by rw [kidsW]; simp
  | x::r,i=>by
    have h1:=hf x (min each (size - i * each))
    have h2:=kidsW_len hf each size r (i + 1)
    rw [kidsW,List.length_cons,Nat.add_mul,Nat.one_mul]
    split
    · rw [List.length_append]; omega
    · show (f x (min each (size - i * each))).1.length≤_; omega
theorem rowsW_len (V:VW):∀ (l:Nat) (id:List UInt8) (size:Nat),(rowsW V l id size).1.length≤cR l
  | 0,id,size=>by rw [rowsW]; exact Nat.le_refl _
  | l + 1,id,size=>by
    rw [rowsW,cR]
    split
    · simp
    · rename_i b hb
      split
      · simp
      · have h1:=kidsW_len (fun x s=>rowsW_len V l x s) (64 * 8 ^ l) size (parseNL b) 0
        have h2:=Nat.mul_le_mul_right (cR l) (parseNL_ids b).2
        rw [List.length_cons]
        omega
theorem cR_mono:∀ {l m:Nat},l≤m→cR l≤cR m
  | l,0,h=>by
    have:l=0:=by omega
    subst this
    exact Nat.le_refl _
  | l,m + 1,h=>by
    rcases Nat.lt_or_ge l (m + 1) with h1 | h1
    · have:=cR_mono (show l≤m by omega)
      rw [cR]
      omega
    · have:l=m + 1:=by omega
      subst this; exact Nat.le_refl _
theorem lev5 {s:Int} (h:s≤1048576):lev s≤5:=by
  unfold lev
  repeat' split
  all_goals omega
theorem bodyW_len {V:VW} {n:Nd} (hn:NdOk n):(bodyW V n).1.length≤40000:=by
  unfold bodyW
  split
  · have h1:=rowsW_len V n.2.2.1.toNat n.2.2.2 n.2.1.toNat
    have h2:=hn.2.2.2.1
    have h3:=lev5 hn.2.2.1
    have h4:=cR_mono (show n.2.2.1.toNat≤5 by omega)
    have h5:cR 5≤40000:=by decide
    omega
  · simp
def cN:Nat→Nat
  | 0=>0
  | f + 1=>1 + 20 * cN f
theorem nkids_len {f:List UInt8→List PK→NW} {c d:Nat} (hf:∀ x w,(f x w).2.1.length≤c∧(f x w).1.length≤w.length + d):∀ (es:List Ent) (ws:List PK),(nkids f es ws).2.1.length≤es.length * c∧(nkids f es ws).1.length≤ws.length + es.length * d
  | [],ws=>by rw [nkids]; simp
  | x::r,ws=>by
    have h1:=hf x.2 ws
    have h2:=nkids_len hf r (f x.2 ws).1
    rw [nkids,List.length_cons,Nat.add_mul,Nat.add_mul,Nat.one_mul,Nat.one_mul]
    split
    · refine ⟨?_,?_⟩
      · show ((f x.2 ws).2.1++(nkids f r (f x.2 ws).1).2.1).length≤_
        rw [List.length_append]; omega
      · show (nkids f r (f x.2 ws).1).1.length≤_
        omega
    · exact ⟨by omega,by omega⟩
theorem nodeW_len (V:VW):∀ (f:Nat) (id:List UInt8) (deep:Nat) (ws:List PK),(nodeW V f id deep ws).2.1.length≤40001 * cN f∧(nodeW V f id deep ws).1.length≤ws.length + cN f
  | 0,_,_,_=>by rw [nodeW]; simp
  | f + 1,id,deep,ws=>by
    have hs:(ws++[(id,(deep:Int))]).length=ws.length + 1:=by simp
    rw [nodeW,cN]
    split
    · exact ⟨by simp,by show (ws++[(id,(deep:Int))]).length≤_; omega⟩
    · split
      · exact ⟨by simp; omega,by show (ws++[(id,(deep:Int))]).length≤_; omega⟩
      · rename_i h0 h1
        have h1:(inodeV V id).2=0:=Classical.byContradiction h1
        have hb:=bodyW_len (V:=V) (inodeV_ok h1)
        split
        · exact ⟨by simp; omega,by show (ws++[(id,(deep:Int))]).length≤_; omega⟩
        · split
          · exact ⟨by simp; omega,by show (ws++[(id,(deep:Int))]).length≤_; omega⟩
          · split
            · exact ⟨by simp; omega,by show (ws++[(id,(deep:Int))]).length≤_; omega⟩
            · have h2:=nkids_len (fun x w=>nodeW_len V f x (deep + 1) w) (dirV V (inodeV V id).1).1 (ws++[(id,(deep:Int))])
              have h3:=Nat.mul_le_mul_right (40001 * cN f) (dirV20 V (inodeV V id).1)
              have h4:=Nat.mul_le_mul_right (cN f) (dirV20 V (inodeV V id).1)
              refine ⟨?_,?_⟩
              · simp only [List.length_append,List.length_cons]
                omega
              · dsimp only
                omega
theorem node_small (V:VW) (id:List UInt8):(nodeW V 6 id 0 []).2.1.length≤1000000000000∧(nodeW V 6 id 0 []).1.length≤1000000000000:=by
  have h:=nodeW_len V 6 id 0 []
  have h2:40001 * cN 6≤1000000000000:=by decide
  have h3:cN 6≤1000000000000:=by decide
  simp only [List.length_nil] at h
  omega
def nubL:List (List UInt8)→List (List UInt8)
  | []=>[]
  | x::r=>if x ∈ r then nubL r else x::nubL r
theorem nub_mem (y:List UInt8):∀ l,y ∈ nubL l ↔ y ∈ l
  | []=>by rw [nubL]
  | x::r=>by
    rw [nubL]
    split
    · rename_i h
      rw [nub_mem y r,List.mem_cons]
      constructor
      · exact .inr
      · rintro (rfl | h2)
        · exact h
        · exact h2
    · rw [List.mem_cons,List.mem_cons,nub_mem y r]
theorem nub_nodup:∀ l,(nubL l).Nodup
  | []=>by rw [nubL]; exact List.nodup_nil
  | x::r=>by
    rw [nubL]
    split
    · exact nub_nodup r
    · rename_i h
      exact List.nodup_cons.2 ⟨fun hc=>h ((nub_mem x r).1 hc),nub_nodup r⟩
theorem nub_same {a b:List (List UInt8)} (ha:a.Nodup) (h:∀ k,k ∈ a ↔ k ∈ b):a.length=(nubL b).length :=
  Nat.le_antisymm (sub_len ha fun x hx=>(nub_mem x b).2 ((h x).1 hx)) (sub_len (nub_nodup b) fun x hx=>(h x).2 ((nub_mem x b).1 hx))
theorem MetOk.len {mes:List (List UInt8 × Value)} {ks:List (List UInt8)} (h:MetOk mes ks):mes.length=(nubL ks).length:=by
  rw [← nub_same h.nodup h.keys,List.length_map]
section
variable {P:Program} {E:Env} {n:Nat} {K:Slots} {L:Res} {o:Oper} {kt et mt:TypeId}
theorem Pu_lookupMet {r g:Nat} {x y:Operand} {k:List UInt8} {ks:List (List UInt8)} (T:KeyT P kt idV ok32) (ho:o.op = .lookup mt x y false) (hm:P.underlying mt=some (.map kt et)) (hz:∀ w,(zeroValue et).run P w = .ok (.int .i64 0) w)
    (hx:evK K x=some (.map (some g))) (hy:evK K y=some (idV k)) (hl:k.length=32) (hr:look L r=some (metP g ks)):Pure P E n o K L (.int .i64 ((cntK k ks:Nat):Int)):=fun a w hA hS=>by
  obtain ⟨h,⟨mes,hmo,q1⟩,q2⟩:=hS.read hr
  have:=run_lookupQ T hm hz q1 q2 k hl false
  simp only [Bool.false_eq_true,if_false] at this
  rw [hmo.cnt k] at this
  simp only [execOp,ho,hA.eval hx,hA.eval hy,Sem.run_bind,this]
  rfl
theorem Pu_lenMet {t:TypeId} {r g:Nat} {x:Operand} {ks:List (List UInt8)} (ho:o.op = .call { callee:=.builtin .len,args:=#[x],argTypes:=#[t] }) (ht:P.underlying t=some (.map kt et)) (hx:evK K x=some (.map (some g))) (hr:look L r=some (metP g ks)):Pure P E n o K L (.int .i64 ((nubL ks).length:Int)):=fun a w hA hS=>by
  obtain ⟨h,⟨mes,hmo,⟨_,b,clk,h2,_,h3,_⟩⟩,hi⟩:=hS.read hr
  have hg:=hi _ _ h2
  have hl:=ekv_len h3
  rw [hmo.len] at hl
  simp [execOp,ho,resolve,invoke,builtin,hA.eval hx,Builtin.len_,run_underlying ht,MapKept.run_getObj_map hg,goInt,hl,Result.andThen]
end
theorem bytes_rd {w:World} {v:Value} {l:List UInt8} (h:RdB w v l):(Extern.Bytes.bytesOf v).run Tryz.prog w = .ok ⟨l.toArray⟩ w:=by
  obtain ⟨hlen,A,c,rfl,hnc,h0,hrd⟩:=h
  cases A with
  | none =>
    have hc:=h0 rfl
    have hnil:l=[]:=List.eq_nil_of_length_eq_zero (by omega)
    subst hnil
    rfl
  | some ad =>
    obtain ⟨_,hc⟩:=hrd ad rfl
    have:=run_loadL (P:=Tryz.prog) w l ad .empty (fun j u hj=>hc j (bv u) (by rw [bs_get,hj]; rfl))
    unfold Extern.Bytes.bytesOf
    rw [this]
    congr 1
    apply ByteArray.ext
    show #[]++l.toArray=_
    simp
theorem compare_spec (va vb:Value) (a b:List UInt8) (F:HP) (hA:∀ h,F h→rdB va a h) (hB:∀ h,F h→rdB vb b h):CallsS Tryz.prog 41 #[va,vb] F [] (fun r Ps=>r = .int .i64 (Extern.BytealgCompare.cmp ⟨a.toArray⟩ ⟨b.toArray⟩)∧Ps=[]) :=
  callsS_below fun w ⟨h,hp,hi⟩=>(compare_any va vb _ _ w (bytes_rd (rdB_RdB (hA h hp) hi)) (bytes_rd (rdB_RdB (hB h hp) hi))).mono fun e w' ⟨he,hw⟩=>⟨he,hw ▸ Below.refl _ _⟩
theorem ebk_rd {es:List EB} {v:Value} {n k:Nat} {b:EB} {h:Hlt} (hr:rdP 35 v n (recC bvC (es.map (·.1))) h) (hn:n=(es.map (·.1)).length) (hb:es[k]?=some b):rdB (.slice (some ((adrOf v).add (k * 35 + 0))) 32 32) b.1.key h:=by
  obtain ⟨hk,he⟩:=List.getElem?_eq_some_iff.1 hb
  have hk2:k < (es.map (·.1)).length:=by rw [List.length_map]; exact hk
  have:=recC_rd (d:=default) (off:=0) (m:=32) (xs:=bs b.1.key) (bvs_len (es.map (·.1))) hr hn hk2 (by decide) (by
    have e:(es.map (·.1)).getD k default=b.1:=by simp [hb]
    rw [e]
    exact bk_key b.1.len)
  unfold rdB
  rw [b.1.len]
  exact this
theorem bk_rdB {g:Nat} {t:TypeId} {x:BV} {h:Hlt} (hb:blk g t (bvC x) h):rdB (.slice (some ⟨g,0 + 0,none⟩) 32 32) x.key h:=by
  unfold rdB
  rw [x.len]
  exact blk_rd hb (bk_key x.len) (by rw [bs_length,x.len]) (Nat.le_refl _)
def GoodB (es:List EB) (ks:List (List UInt8)) (j:Nat):Prop:=∀ b,es[j]?=some b→b.1.key ∈ ks∧b.1.src=0∧b.1.exp=0∧∀ a,0 < j→es[j - 1]?=some a→ltK a.1.key b.1.key=true
structure SoundV (V:VW) (es:List EB) (id:List UInt8):Prop where
  ino:(inodeV V id).2=0
  dir:(inodeV V id).1.1=2
  ok:(nodeW V 6 id 0 []).2.2=true
  cnt:(nubL (nodeW V 6 id 0 []).2.1).length=es.length
  good:∀ j,j < es.length→GoodB es (nodeW V 6 id 0 []).2.1 j
theorem cmp_ge {a b:List UInt8} (h:a.length=b.length):decide ((0:Int)≤Extern.BytealgCompare.cmp ⟨a.toArray⟩ ⟨b.toArray⟩) = !(ltK a b):=by
  rw [← cmp_lt a b h]
  by_cases h1:Extern.BytealgCompare.cmp ⟨a.toArray⟩ ⟨b.toArray⟩ < 0
  · rw [decide_eq_true h1,decide_eq_false (by omega)]; rfl
  · rw [decide_eq_false h1,decide_eq_true (by omega)]; rfl
open Go.RowKit
set_option maxRecDepth 8000
theorem nodeW_cases {V:VW} {f deep:Nat} {id:List UInt8} {ws:List PK} (h:(nodeW V (f + 1) id deep ws).2.2=true):((id,(deep:Int)) ∈ ws∧nodeW V (f + 1) id deep ws=(ws++[(id,(deep:Int))],[],true))∨((id,(deep:Int)) ∉ ws∧(inodeV V id).2=0∧(bodyW V (inodeV V id).1).2=true∧(((inodeV V id).1.1=1∧nodeW V (f + 1) id deep ws=(ws++[(id,(deep:Int))],id::(bodyW V (inodeV V id).1).1,true))∨((inodeV V id).1.1≠1∧(dirV V (inodeV V id).1).2=0∧¬ (0 < (dirV V (inodeV V id).1).1.length∧5≤deep)∧(nkids (fun x w=>nodeW V f x (deep + 1) w) (dirV V (inodeV V id).1).1 (ws++[(id,(deep:Int))])).2.2=true∧nodeW V (f + 1) id deep ws=((nkids (fun x w=>nodeW V f x (deep + 1) w) (dirV V (inodeV V id).1).1 (ws++[(id,(deep:Int))])).1,id::(bodyW V (inodeV V id).1).1++(nkids (fun x w=>nodeW V f x (deep + 1) w) (dirV V (inodeV V id).1).1 (ws++[(id,(deep:Int))])).2.1,true)))):=by
  by_cases h0:(id,(deep:Int)) ∈ ws
  · exact .inl ⟨h0,nodeW_seen h0⟩
  · refine .inr ⟨h0,?_⟩
    by_cases h1:(inodeV V id).2=0
    · refine ⟨h1,?_⟩
      cases h2:(bodyW V (inodeV V id).1).2 with
      | false=>rw [nodeW_rows h0 h1 h2] at h; cases h
      | true =>
        refine ⟨rfl,?_⟩
        by_cases h3:(inodeV V id).1.1=1
        · exact .inl ⟨h3,nodeW_file h0 h1 h2 h3⟩
        · by_cases h4:(dirV V (inodeV V id).1).2≠0∨(0 < (dirV V (inodeV V id).1).1.length∧5≤deep)
          · rw [nodeW_bad h0 h1 h2 h3 h4] at h; cases h
          · have h5:=nodeW_dir (f:=f) h0 h1 h2 h3 h4
            rw [h5] at h
            dsimp only at h
            refine .inr ⟨h3,Classical.byContradiction fun hc=>h4 (.inl hc),fun hc=>h4 (.inr hc),h,?_⟩
            rw [h5,h]
    · rw [nodeW_none h0 h1] at h; cases h
theorem nkids_ok {F:List UInt8→List PK→NW} {e:Ent} {r:List Ent} {ws:List PK} (h:(nkids F (e::r) ws).2.2=true):(F e.2 ws).2.2=true∧(nkids F r (F e.2 ws).1).2.2=true∧nkids F (e::r) ws=((nkids F r (F e.2 ws).1).1,(F e.2 ws).2.1++(nkids F r (F e.2 ws).1).2.1,(nkids F r (F e.2 ws).1).2.2):=by
  rw [nkids] at h ⊢
  by_cases h1:(F e.2 ws).2.2=true
  · rw [if_pos h1] at h ⊢
    exact ⟨h1,h,rfl⟩
  · rw [if_neg h1] at h
    exact absurd h h1
inductive Down (V:VW):List UInt8→Nat→List UInt8→Prop
  | refl (x:List UInt8):Down V x 0 x
  | step {x:List UInt8} {e:Ent} {m:Nat} {y:List UInt8}:(inodeV V x).2=0→(inodeV V x).1.1≠1→e ∈ (dirV V (inodeV V x).1).1→Down V e.2 m y→Down V x (m + 1) y
theorem Down.trans {V:VW} {x y z:List UInt8} {m n:Nat} (h:Down V x m y) (h2:Down V y n z):Down V x (m + n) z:=by
  induction h with
  | refl x=>rw [Nat.zero_add]; exact h2
  | step a b c d ih=>rw [Nat.add_right_comm]; exact .step a b c (ih h2)
def GoneBy (V:VW) (x:List UInt8) (d:Int) (ks:List (List UInt8)):Prop:=∀ m y,Down V x m y→d + (m:Int)≤5∧y ∈ ks∧∀ z ∈ (bodyW V (inodeV V y).1).1,z ∈ ks
theorem GoneBy.more {V:VW} {x:List UInt8} {d:Int} {ks ms:List (List UInt8)} (h:GoneBy V x d ks) (hs:∀ z ∈ ks,z ∈ ms):GoneBy V x d ms:=fun m y hd=>⟨(h m y hd).1,hs _ (h m y hd).2.1,fun z hz=>hs _ ((h m y hd).2.2 z hz)⟩
section
variable {V:VW} {F:List UInt8→List PK→NW} {d:Int}
theorem nkids_gone (hF:∀ x w ks,(∀ P ∈ w,d≤P.2→GoneBy V P.1 P.2 ks)→(F x w).2.2=true→GoneBy V x d (ks++(F x w).2.1)∧∀ P ∈ (F x w).1,P ∈ w∨(d≤P.2∧GoneBy V P.1 P.2 (ks++(F x w).2.1))):∀ (es:List Ent) (ws:List PK) (ks:List (List UInt8)),(∀ P ∈ ws,d≤P.2→GoneBy V P.1 P.2 ks)→(nkids F es ws).2.2=true→(∀ e ∈ es,GoneBy V e.2 d (ks++(nkids F es ws).2.1))∧∀ P ∈ (nkids F es ws).1,P ∈ ws∨(d≤P.2∧GoneBy V P.1 P.2 (ks++(nkids F es ws).2.1))
  | [],ws,ks,hp,h=>by
    rw [nkids]
    exact ⟨fun e he=>absurd he (by simp),fun P hP=>.inl hP⟩
  | e::r,ws,ks,hp,h=>by
    obtain ⟨h1,h2,h3⟩:=nkids_ok h
    obtain ⟨a1,a2⟩:=hF e.2 ws ks hp h1
    have hp2:∀ P ∈ (F e.2 ws).1,d≤P.2→GoneBy V P.1 P.2 (ks++(F e.2 ws).2.1):=fun P hP hd=>(a2 P hP).elim (fun hw=>(hp P hw hd).more fun z hz=>List.mem_append.2 (.inl hz)) (fun hw=>hw.2)
    obtain ⟨b1,b2⟩:=nkids_gone hF r _ _ hp2 h2
    have hs:∀ z ∈ ks++(F e.2 ws).2.1,z ∈ ks++((F e.2 ws).2.1++(nkids F r (F e.2 ws).1).2.1):=fun z hz=>by
      rw [← List.append_assoc]
      exact List.mem_append.2 (.inl hz)
    rw [h3]
    dsimp only
    rw [List.append_assoc] at b1 b2
    refine ⟨fun x hx=>?_,fun P hP=>?_⟩
    · rcases List.mem_cons.1 hx with rfl | hx
      · exact a1.more hs
      · exact b1 x hx
    · rcases b2 P hP with hq | hq
      · rcases a2 P hq with hq | hq
        · exact .inl hq
        · exact .inr ⟨hq.1,hq.2.more hs⟩
      · exact .inr hq
end
theorem nodeW_gone (V:VW):∀ (f:Nat) (id:List UInt8) (deep:Nat) (ws:List PK) (ks:List (List UInt8)),f + deep=6→(∀ P ∈ ws,(deep:Int)≤P.2→GoneBy V P.1 P.2 ks)→(nodeW V f id deep ws).2.2=true→GoneBy V id (deep:Int) (ks++(nodeW V f id deep ws).2.1)∧∀ P ∈ (nodeW V f id deep ws).1,P ∈ ws∨((deep:Int)≤P.2∧GoneBy V P.1 P.2 (ks++(nodeW V f id deep ws).2.1))
  | 0,id,deep,ws,ks,hf,hp,h=>by rw [nodeW] at h; cases h
  | f + 1,id,deep,ws,ks,hf,hp,h=>by
    rcases nodeW_cases h with ⟨h0,he⟩ | ⟨h0,h1,h2,⟨h3,he⟩ | ⟨h3,h4,h5,h6,he⟩⟩
    · rw [he]
      dsimp only
      rw [List.append_nil]
      have:=hp _ h0 (Int.le_refl _)
      refine ⟨this,fun P hP=>?_⟩
      rcases List.mem_append.1 hP with hP | hP
      · exact .inl hP
      · rw [List.mem_singleton.1 hP]
        exact .inl h0
    · rw [he]
      dsimp only
      have hg:GoneBy V id (deep:Int) (ks++id::(bodyW V (inodeV V id).1).1):=fun m y hd=>by
        cases hd with
        | refl=>exact ⟨by omega,by simp,fun z hz=>by simp [hz]⟩
        | step a b c d=>exact absurd h3 b
      refine ⟨hg,fun P hP=>?_⟩
      rcases List.mem_append.1 hP with hP | hP
      · exact .inl hP
      · rw [List.mem_singleton.1 hP]
        exact .inr ⟨Int.le_refl _,hg⟩
    · have hpk:∀ P ∈ ws++[(id,(deep:Int))],(((deep + 1:Nat):Int))≤P.2→GoneBy V P.1 P.2 (ks++id::(bodyW V (inodeV V id).1).1):=fun P hP hd=>by
        rcases List.mem_append.1 hP with hP | hP
        · exact (hp P hP (by omega)).more fun z hz=>List.mem_append.2 (.inl hz)
        · rw [List.mem_singleton.1 hP] at hd
          dsimp only at hd
          omega
      obtain ⟨b1,b2⟩:=nkids_gone (V:=V) (F:=fun x w=>nodeW V f x (deep + 1) w) (d:=((deep + 1:Nat):Int)) (fun x w ks2 hp2 hok=>nodeW_gone V f x (deep + 1) w ks2 (by omega) hp2 hok) _ _ _ hpk h6
      rw [he]
      dsimp only
      rw [List.append_assoc,List.cons_append] at b1 b2
      rw [List.cons_append]
      have hg:GoneBy V id (deep:Int) (ks++id::((bodyW V (inodeV V id).1).1++(nkids (fun x w=>nodeW V f x (deep + 1) w) (dirV V (inodeV V id).1).1 (ws++[(id,(deep:Int))])).2.1)):=fun m y hd=>by
        cases hd with
        | refl=>exact ⟨by omega,by simp,fun z hz=>by simp [hz]⟩
        | step a b c d =>
          have:=b1 _ c _ _ d
          exact ⟨by have:=this.1; omega,this.2⟩
      refine ⟨hg,fun P hP=>?_⟩
      rcases b2 P hP with hq | hq
      · rcases List.mem_append.1 hq with hq | hq
        · exact .inl hq
        · rw [List.mem_singleton.1 hq]
          exact .inr ⟨Int.le_refl _,hg⟩
      · exact .inr ⟨by have:=hq.1; omega,hq.2⟩
def Und (V:VW) (x z:List UInt8):Prop:=∃ m y,Down V x m y∧(inodeV V y).2=0∧(bodyW V (inodeV V y).1).2=true∧(z=y∨z ∈ (bodyW V (inodeV V y).1).1)
theorem nkids_mem {F:List UInt8→List PK→NW} {z:List UInt8}:∀ (es:List Ent) (ws:List PK),(nkids F es ws).2.2=true→z ∈ (nkids F es ws).2.1→∃ e ∈ es,∃ w,(F e.2 w).2.2=true∧z ∈ (F e.2 w).2.1
  | [],ws,_,hz=>by rw [nkids] at hz; cases hz
  | e::r,ws,h,hz=>by
    obtain ⟨h1,h2,h3⟩:=nkids_ok h
    rw [h3] at hz
    rcases List.mem_append.1 hz with hz | hz
    · exact ⟨e,by simp,ws,h1,hz⟩
    · obtain ⟨x,hx,w,h4,h5⟩:=nkids_mem r _ h2 hz
      exact ⟨x,List.mem_cons_of_mem _ hx,w,h4,h5⟩
theorem nodeW_under (V:VW):∀ (f:Nat) (id:List UInt8) (deep:Nat) (ws:List PK),(nodeW V f id deep ws).2.2=true→∀ z ∈ (nodeW V f id deep ws).2.1,Und V id z
  | 0,id,deep,ws,h,z,hz=>by rw [nodeW] at h; cases h
  | f + 1,id,deep,ws,h,z,hz=>by
    rcases nodeW_cases h with ⟨h0,he⟩ | ⟨h0,h1,h2,⟨h3,he⟩ | ⟨h3,h4,h5,h6,he⟩⟩
    · rw [he] at hz; cases hz
    · rw [he] at hz
      exact ⟨0,id,.refl id,h1,h2,List.mem_cons.1 hz⟩
    · rw [he] at hz
      rcases List.mem_append.1 hz with hz | hz
      · exact ⟨0,id,.refl id,h1,h2,List.mem_cons.1 hz⟩
      · obtain ⟨e,hem,w,h7,h8⟩:=nkids_mem _ _ h6 hz
        obtain ⟨m,y,a,b⟩:=nodeW_under V f e.2 (deep + 1) w h7 z h8
        exact ⟨m + 1,y,.step h1 h3 hem a,b⟩
theorem kids_ok {F:List UInt8→Nat→List (List UInt8) × Bool} {each size i:Nat} {x:List UInt8} {r:List (List UInt8)} (h:(kidsW F each size i (x::r)).2=true):(F x (min each (size - i * each))).2=true∧(kidsW F each size (i + 1) r).2=true∧kidsW F each size i (x::r)=((F x (min each (size - i * each))).1++(kidsW F each size (i + 1) r).1,(kidsW F each size (i + 1) r).2):=by
  rw [kidsW] at h ⊢
  by_cases h1:(F x (min each (size - i * each))).2=true
  · rw [if_pos h1] at h ⊢
    exact ⟨h1,h,rfl⟩
  · rw [if_neg h1] at h
    cases h
theorem kids_mem {F:List UInt8→Nat→List (List UInt8) × Bool} {each size:Nat} {z:List UInt8}:∀ (l:List (List UInt8)) (i:Nat),(kidsW F each size i l).2=true→z ∈ (kidsW F each size i l).1→∃ x ∈ l,∃ s,(F x s).2=true∧z ∈ (F x s).1
  | [],i,_,hz=>by rw [kidsW] at hz; cases hz
  | x::r,i,h,hz=>by
    obtain ⟨h1,h2,h3⟩:=kids_ok h
    rw [h3] at hz
    rcases List.mem_append.1 hz with hz | hz
    · exact ⟨x,by simp,_,h1,hz⟩
    · obtain ⟨y,hy,s,h4,h5⟩:=kids_mem r _ h2 hz
      exact ⟨y,List.mem_cons_of_mem _ hy,s,h4,h5⟩
theorem kids_each {F:List UInt8→Nat→List (List UInt8) × Bool} {each size:Nat} {x:List UInt8}:∀ (l:List (List UInt8)) (i:Nat),(kidsW F each size i l).2=true→x ∈ l→∃ s,(F x s).2=true∧∀ z ∈ (F x s).1,z ∈ (kidsW F each size i l).1
  | [],i,_,hx=>by cases hx
  | y::r,i,h,hx=>by
    obtain ⟨h1,h2,h3⟩:=kids_ok h
    rw [h3]
    rcases List.mem_cons.1 hx with rfl | hx
    · exact ⟨_,h1,fun z hz=>List.mem_append.2 (.inl hz)⟩
    · obtain ⟨s,h4,h5⟩:=kids_each r _ h2 hx
      exact ⟨s,h4,fun z hz=>List.mem_append.2 (.inr (h5 z hz))⟩
theorem rowsW_cases {V:VW} {l size:Nat} {id:List UInt8} (h:(rowsW V (l + 1) id size).2=true):∃ b,V id=some b∧parseNE b=0∧(kidsW (rowsW V l) (64 * 8 ^ l) size 0 (parseNL b)).2=true∧rowsW V (l + 1) id size=(id::(kidsW (rowsW V l) (64 * 8 ^ l) size 0 (parseNL b)).1,true):=by
  rw [rowsW] at h ⊢
  cases hv:V id with
  | none=>rw [hv] at h; cases h
  | some b =>
    rw [hv] at h
    dsimp only at h ⊢
    by_cases hc:parseNE b≠0∨(parseNL b).length≠(size + 64 * 8 ^ l - 1) / (64 * 8 ^ l)
    · rw [if_pos hc] at h; cases h
    · rw [if_neg hc] at h ⊢
      dsimp only at h
      exact ⟨b,rfl,Classical.byContradiction fun h1=>hc (.inl h1),h,by rw [h]⟩
theorem parseNE_110 {b:List UInt8} (h:parseNE b=0):at0 b 0=110:=by
  unfold parseNE at h
  split at h
  · cases h
  · split at h
    · cases h
    · rename_i h2
      exact Classical.byContradiction fun hc=>h2 (.inl hc)
theorem rowsW_here (V:VW):∀ (l size:Nat) (id:List UInt8),id ∈ (rowsW V l id size).1
  | 0,size,id=>by rw [rowsW]; exact List.mem_singleton.2 rfl
  | l + 1,size,id=>by
    rw [rowsW]
    split
    · exact List.mem_singleton.2 rfl
    · split
      · exact List.mem_singleton.2 rfl
      · exact List.mem_cons_self
theorem rowsW_row (V:VW):∀ (l size:Nat) (id:List UInt8),(rowsW V l id size).2=true→∀ z ∈ (rowsW V l id size).1,∃ b,V z=some b∧at0 b 0≠105
  | 0,size,id,h,z,hz=>by
    rw [rowsW] at h hz
    rw [List.mem_singleton.1 hz]
    cases hv:V id with
    | none=>rw [hv] at h; cases h
    | some b =>
      rw [hv] at h
      dsimp only at h
      have:at0 b 0=100:=by
        have h2:=(Bool.and_eq_true _ _ ▸ h:_∧_).2
        exact of_decide_eq_true h2
      exact ⟨b,rfl,by rw [this]; decide⟩
  | l + 1,size,id,h,z,hz=>by
    obtain ⟨b,h1,h2,h3,h4⟩:=rowsW_cases h
    rw [h4] at hz
    rcases List.mem_cons.1 hz with rfl | hz
    · refine ⟨b,h1,fun hc=>?_⟩
      rw [parseNE_110 h2] at hc
      exact absurd hc (by decide)
    · obtain ⟨x,_,s,h5,h6⟩:=kids_mem _ _ h3 hz
      exact rowsW_row V l s x h5 z h6
theorem inode_105 {V:VW} {z:List UInt8} (h:(inodeV V z).2=0):∃ b,V z=some b∧at0 b 0=105:=by
  unfold inodeV at h
  cases hv:V z with
  | none=>rw [hv] at h; cases h
  | some b =>
    rw [hv] at h
    dsimp only at h
    refine ⟨b,rfl,?_⟩
    unfold parseI at h
    split at h
    · cases h
    · split at h
      · cases h
      · rename_i h2
        exact Classical.byContradiction fun hc=>h2 (.inl hc)
theorem bodyW_row {V:VW} {n:Nd} (h:(bodyW V n).2=true):∀ z ∈ (bodyW V n).1,∃ b,V z=some b∧at0 b 0≠105:=by
  intro z hz
  unfold bodyW at h hz
  split at hz
  · rename_i h1
    rw [if_pos h1] at h
    exact rowsW_row V _ _ _ h z hz
  · cases hz
theorem und_there {V:VW} {x z:List UInt8} (h:Und V x z):∃ b,V z=some b:=by
  obtain ⟨m,y,_,h1,h2,rfl | h3⟩:=h
  · obtain ⟨b,hb,_⟩:=inode_105 h1
    exact ⟨b,hb⟩
  · obtain ⟨b,hb,_⟩:=bodyW_row h2 z h3
    exact ⟨b,hb⟩
def SubV (V V':VW):Prop:=∀ k b,V k=some b→V' k=some b
section
variable {V V':VW} (hs:SubV V V')
include hs
end
def FineAt (V:VW) (y:List UInt8) (d:Nat):Prop:=(inodeV V y).2=0∧(bodyW V (inodeV V y).1).2=true∧((inodeV V y).1.1≠1→(dirV V (inodeV V y).1).2=0∧¬ (0 < (dirV V (inodeV V y).1).1.length∧5≤d))
theorem nkids_fine {F:List UInt8→List PK→NW}:∀ (es:List Ent) (ws:List PK),(∀ e ∈ es,∀ w,(F e.2 w).2.2=true)→(nkids F es ws).2.2=true
  | [],ws,h=>rfl
  | e::r,ws,h=>by
    rw [nkids,if_pos (h e (by simp) ws)]
    exact nkids_fine r _ fun x hx=>h x (List.mem_cons_of_mem _ hx)
theorem nodeW_fine (V:VW):∀ (f:Nat) (id:List UInt8) (deep:Nat) (ws:List PK),1≤f→f + deep=6→(∀ m y,Down V id m y→FineAt V y (deep + m))→(nodeW V f id deep ws).2.2=true
  | 0,id,deep,ws,h0,hf,h=>absurd h0 (by decide)
  | f + 1,id,deep,ws,h0,hf,h=>by
    by_cases hw:(id,(deep:Int)) ∈ ws
    · rw [nodeW_seen hw]
    · obtain ⟨h1,h2,h3⟩:=h 0 id (.refl id)
      by_cases h4:(inodeV V id).1.1=1
      · rw [nodeW_file hw h1 h2 h4]
      · obtain ⟨h5,h6⟩:=h3 h4
        rw [Nat.add_zero] at h6
        rw [nodeW_dir hw h1 h2 h4 (by rintro (hc | hc); exact hc h5; exact h6 hc)]
        refine nkids_fine _ _ fun e he w=>nodeW_fine V f e.2 (deep + 1) w ?_ (by omega) fun m y hd=>?_
        · have:0 < (dirV V (inodeV V id).1).1.length:=List.length_pos_iff.2 fun hc=>by rw [hc] at he; cases he
          omega
        · have:=h (m + 1) y (.step h1 h4 he hd)
          rw [show deep + 1 + m=deep + (m + 1) by omega]
          exact this
open Go.RowKit
structure Kept (l:List TB):Prop where
  sorted:l.Pairwise fun a b=>ltK a.1 b.1=true
  from_:∀ p ∈ l,p=(sha p.2.1,p.2.1,0,0)
theorem Kept.nil:Kept []:=⟨List.Pairwise.nil,fun _ h=>by cases h⟩
theorem Kept.tail {b:TB} {r:List TB} (h:Kept (b::r)):Kept r:=⟨(List.pairwise_cons.1 h.sorted).2,fun p hp=>h.from_ p (by simp [hp])⟩
theorem putT_mem {d:List UInt8} {q:TB}:∀ {l:List TB},q ∈ (putT d l).1→q ∈ l∨q=(sha d,d,0,0)
  | [],h=>by rw [putT] at h; exact .inr (by simpa using h)
  | b::r,h=>by
    rw [putT] at h
    split at h
    · rcases List.mem_cons.1 h with rfl | h
      · exact .inl (by simp)
      · rcases putT_mem h with h | h
        · exact .inl (by simp [h])
        · exact .inr h
    · split at h
      · exact .inl h
      · rcases List.mem_cons.1 h with h | h
        · exact .inr h
        · exact .inl h
theorem putT_old {d:List UInt8} {q:TB}:∀ {l:List TB},q ∈ l→q ∈ (putT d l).1
  | [],h=>by cases h
  | b::r,h=>by
    rw [putT]
    split
    · rcases List.mem_cons.1 h with rfl | h
      · exact List.mem_cons_self
      · exact List.mem_cons_of_mem _ (putT_old h)
    · split
      · exact h
      · exact List.mem_cons_of_mem _ h
theorem putT_kept {d:List UInt8}:∀ {l:List TB},Kept l→Kept (putT d l).1
  | [],_=>⟨by rw [putT]; exact List.pairwise_singleton _ _,fun p hp=>by rw [putT] at hp; rw [List.mem_singleton.1 hp]⟩
  | b::r,h=>by
    refine ⟨?_,fun p hp=>?_⟩
    · have h1:=(List.pairwise_cons.1 h.sorted).1
      rw [putT]
      split
      · rename_i hl
        refine List.pairwise_cons.2 ⟨fun y hy=>?_,(putT_kept h.tail).sorted⟩
        rcases putT_mem hy with hy | rfl
        · exact h1 y hy
        · exact hl
      · split
        · exact h.sorted
        · rename_i hl hne
          have hex:ltK (sha d) b.1=true:=ltK_of_not (by simpa using hl) (fun h=>hne h.symm)
          refine List.pairwise_cons.2 ⟨fun y hy=>?_,h.sorted⟩
          rcases List.mem_cons.1 hy with rfl | hy
          · exact hex
          · exact ltK_trans _ _ _ hex (h1 y hy)
    · rcases putT_mem hp with hp | rfl
      · exact h.from_ p hp
      · rfl
theorem putT_new {d:List UInt8}:∀ {l:List TB},Kept l→(putT d l).2=false→(sha d,d,0,0) ∈ (putT d l).1
  | [],_,_=>by rw [putT]; simp
  | b::r,h,h0=>by
    rw [putT] at h0 ⊢
    split
    · rename_i hl
      rw [if_pos hl] at h0
      exact List.mem_cons_of_mem _ (putT_new h.tail h0)
    · rename_i hl
      rw [if_neg hl] at h0
      split
      · rename_i he
        rw [if_pos he] at h0
        have hd:b.2.1=d:=by simpa using h0
        have:=h.from_ b (by simp)
        rw [hd] at this
        rw [← this]
        exact List.mem_cons_self
      · exact List.mem_cons_self
theorem putsT_kept (L:List (List UInt8)):∀ s:List TB × Bool,Kept s.1→Kept (putsT s L).1:=by
  induction L with
  | nil=>intro s h; exact h
  | cons d L ih=>intro s h; exact ih _ (putT_kept h)
theorem putsT_met (L:List (List UInt8)):∀ s:List TB × Bool,s.2=true→(putsT s L).2=true:=by
  induction L with
  | nil=>intro s h; exact h
  | cons d L ih=>intro s h; exact ih _ (by simp [h])
theorem putsT_old (L:List (List UInt8)) {q:TB}:∀ s:List TB × Bool,q ∈ s.1→q ∈ (putsT s L).1:=by
  induction L with
  | nil=>intro s h; exact h
  | cons d L ih=>intro s h; exact ih _ (putT_old h)
theorem putsT_all (L:List (List UInt8)):∀ s:List TB × Bool,Kept s.1→(putsT s L).2=false→∀ d ∈ L,(sha d,d,0,0) ∈ (putsT s L).1:=by
  induction L with
  | nil=>intro s _ _ d hd; cases hd
  | cons e L ih =>
    intro s hk h d hd
    have hs:(s.2 || (putT e s.1).2)=false:=by
      cases hh:(s.2 || (putT e s.1).2) with
      | false=>rfl
      | true=>exact absurd (putsT_met L ((putT e s.1).1,s.2 || (putT e s.1).2) hh) (by show ¬ (putsT s (e::L)).2=true; rw [h]; simp)
    rcases List.mem_cons.1 hd with rfl | hd
    · exact putsT_old L _ (putT_new hk (by revert hs; cases s.2 <;> simp))
    · exact ih ((putT e s.1).1,s.2 || (putT e s.1).2) (putT_kept hk) h d hd
theorem pair_inj {l:List TB} (h:Kept l) {p q:TB} (hp:p ∈ l) (hq:q ∈ l) (he:p.1=q.1):p=q:=by
  have hs:=h.sorted
  clear h
  induction l with
  | nil=>cases hp
  | cons x l ih =>
    have h1:=(List.pairwise_cons.1 hs).1
    rcases List.mem_cons.1 hp with rfl | hp'
    · rcases List.mem_cons.1 hq with rfl | hq'
      · rfl
      · have:=h1 q hq'
        rw [he,ltK_irrefl] at this
        cases this
    · rcases List.mem_cons.1 hq with rfl | hq'
      · have:=h1 p hp'
        rw [he,ltK_irrefl] at this
        cases this
      · exact ih hp' hq' (List.pairwise_cons.1 hs).2
def Apart (L:List (List UInt8)):Prop:=∀ a ∈ L,∀ b ∈ L,sha a=sha b→a=b
theorem putsT_apart {L:List (List UInt8)} (h:(putsT ([],false) L).2=false):Apart L:=fun a ha b hb he=>by
  have hk:=putsT_kept L ([],false) Kept.nil
  have h1:=putsT_all L ([],false) Kept.nil h a ha
  have h2:=putsT_all L ([],false) Kept.nil h b hb
  have:=pair_inj hk h1 h2 he
  exact congrArg (fun q:TB=>q.2.1) this
theorem Apart.sub {L M:List (List UInt8)} (h:Apart L) (hs:∀ b ∈ M,b ∈ L):Apart M:=fun a ha b hb he=>h a (hs a ha) b (hs b hb) he
theorem viewT_built {hist:List (List UInt8)} {l:List TB} (ht:TreeOf hist l) (ha:Apart hist) {b:List UInt8} (hb:b ∈ hist):viewT l (sha b)=some b:=by
  obtain ⟨p,hp,hpk⟩:=List.mem_map.1 (ht.all b hb)
  obtain ⟨h1,h2,_⟩:=ht.from_ p hp
  have hpb:p.2.1=b:=ha _ h2 _ hb (by rw [← h1,hpk])
  unfold viewT
  cases hf:l.find? (fun x=>decide (x.1=sha b) && decide (sha x.2.1=sha b)) with
  | none =>
    have:=List.find?_eq_none.1 hf p hp
    simp [hpk,hpb] at this
  | some q =>
    have hq:=List.find?_some hf
    have hqm:=List.mem_of_find?_eq_some hf
    simp at hq
    have:q.2.1=b:=ha _ (ht.from_ q hqm).2.1 _ hb hq.2
    simp [this]
open Go.RowKit
theorem topF_nil {d:List UInt8} (h:d.length=0):topF d=zeroId:=by rw [List.length_eq_zero_iff.1 h]; rfl
theorem above_one:∀ (f:Nat) (l:List (List UInt8)),l.length≤f→l≠[]→∃ top,(above f l).2.2=[top]
  | 0,l,h,hne=>absurd (List.length_eq_zero_iff.1 (by omega)) hne
  | f + 1,l,h,hne=>by
    by_cases hl:1 < l.length
    · rw [above_big hl]
      refine above_one f _ ?_ ?_
      · rw [List.length_map,rowsI_length]; omega
      · intro hc
        have:((rowsI l).map sha).length=0:=by rw [hc]; rfl
        rw [List.length_map,rowsI_length] at this
        omega
    · rw [above_small hl]
      match l,hne with
      | [x],_=>exact ⟨x,rfl⟩
      | x::y::r,_=>simp at hl
theorem rowA_last (V:VW) (k:Nat) (id':List UInt8):∀ (m:Nat) (id:List UInt8),rowA V (k / 8) m id=(id',0)→rowA V k (m + 1) id=rowA V k 1 id'
  | 0,id,h=>by
    rw [rowA] at h
    injection h with h _
    rw [h]
  | m + 1,id,h=>by
    rw [rowA] at h
    rw [rowA]
    have e:k / 8 / 8 ^ m % 8=k / 8 ^ (m + 1) % 8:=by rw [Nat.div_div_eq_div_mul,Nat.pow_succ,Nat.mul_comm 8]
    rw [e] at h
    cases hv:V id with
    | none=>rw [hv] at h; simp at h
    | some b =>
      rw [hv] at h
      simp only at h ⊢
      split at h
      · simp at h
      · rename_i hc
        rw [if_neg hc]
        exact rowA_last V k id' m _ h
theorem ids_take {l:List (List UInt8)} (h:Ids l) (a b:Nat):Ids ((l.drop a).take b):=fun x hx=>h x (List.mem_of_mem_drop (List.mem_of_mem_take hx))
theorem rowA_step {V:VW} {l:List (List UInt8)} (hl:Ids l) {i:Nat} (hi:i < l.length) (hV:V (sha (blkI l (i / 8)))=some (blkI l (i / 8))):rowA V i 1 (sha (blkI l (i / 8)))=(l.getD i [],0):=by
  have hlen:((l.drop (i / 8 * 8)).take 8).length=min 8 (l.length - i / 8 * 8):=by rw [List.length_take,List.length_drop]
  have hE:innerE ((l.drop (i / 8 * 8)).take 8)=0:=by
    unfold innerE
    rw [hlen,if_neg (by omega),if_neg (by omega)]
  obtain ⟨h1,h2⟩:=parse_inner (ids_take hl (i / 8 * 8) 8) hE
  rw [rowA,hV]
  simp only
  have h1':parseNE (blkI l (i / 8))=0:=h1
  have h2':parseNL (blkI l (i / 8))=(l.drop (i / 8 * 8)).take 8:=h2
  have hd:i / 8 ^ 0 % 8=i % 8:=by simp
  rw [h1',h2',hd,if_neg (by rw [hlen]; omega),rowA]
  congr 1
  rw [List.getD_eq_getElem?_getD,List.getD_eq_getElem?_getD,List.getElem?_take_of_lt (by omega),List.getElem?_drop]
  congr 2
  omega
theorem rowA_above {V:VW}:∀ (f:Nat) (l:List (List UInt8)) (top:List UInt8),Ids l→(above f l).2.2=[top]→(∀ b ∈ (above f l).1,V (sha b)=some b)→∀ i,i < l.length→rowA V i (above f l).2.1 top=(l.getD i [],0)
  | 0,l,top,_,h,_,i,hi=>by
    rw [above] at h ⊢
    simp only at h ⊢
    subst h
    simp at hi
    subst hi
    rfl
  | f + 1,l,top,hl,h,hV,i,hi=>by
    by_cases hb:1 < l.length
    · rw [above_big hb] at h hV ⊢
      simp only at h hV ⊢
      have hid:Ids ((rowsI l).map sha):=ids_sha _
      have hi8:i / 8 < (rowsI l).length:=by rw [rowsI_length]; omega
      have ih:=rowA_above f _ top hid h (fun b hbm=>hV b (List.mem_append.2 (.inr hbm))) (i / 8) (by rw [List.length_map]; exact hi8)
      rw [rowA_last V i _ _ _ ih]
      have e:((rowsI l).map sha).getD (i / 8) []=sha (blkI l (i / 8)):=by
        rw [List.getD_eq_getElem?_getD,List.getElem?_map]
        unfold rowsI
        rw [List.getElem?_map,List.getElem?_range (by rw [rowsI_length] at hi8; exact hi8)]
        rfl
      rw [e]
      refine rowA_step hl hi (hV _ (List.mem_append.2 (.inl ?_)))
      unfold rowsI
      exact List.mem_map.2 ⟨i / 8,List.mem_range.2 (by rw [rowsI_length] at hi8; exact hi8),rfl⟩
    · rw [above_small hb] at h ⊢
      simp only at h ⊢
      subst h
      simp at hi
      subst hi
      rfl
def HasF (V:VW) (kind:Int) (d:List UInt8):Prop:=∀ b ∈ blocksF kind d,V (sha b)=some b
theorem node_wrong {kind:Int} {d:List UInt8} (hk:kind=1∨kind=2) (hd:d.length≤4096):wrongN kind (d.length:Int) ((aboveD d).2.1:Int) (topF d)=0:=by
  unfold wrongN
  rw [if_neg (by omega),if_neg]
  unfold wrongB
  rw [lev_eq hd]
  have h1:decide ((d.length:Int) < 0)=false:=decide_eq_false (by omega)
  have h2:decide (1048576 < (d.length:Int))=false:=decide_eq_false (by omega)
  have h3:(decide ((d.length:Int)=0) && !(topF d == zeroId))=false:=by
    by_cases h0:d.length=0
    · rw [topF_nil h0]; simp
    · rw [decide_eq_false (by omega)]; rfl
  rw [h1,h2,h3]
  simp
theorem topF_length (d:List UInt8):(topF d).length=32:=by
  by_cases h0:d.length=0
  · rw [topF_nil h0]; exact zeroId_length
  · have hr:(rowsD d).length=(d.length + 63) / 64:=by simp [rowsD]
    obtain ⟨top,ht⟩:=above_one (d.length + 1) ((rowsD d).map sha) (by rw [List.length_map,hr]; omega) (by
      intro hc
      have:((rowsD d).map sha).length=0:=by rw [hc]; rfl
      rw [List.length_map,hr] at this
      omega)
    have hids:∀ (f:Nat) (l:List (List UInt8)),Ids l→Ids (above f l).2.2:=by
      intro f
      induction f with
      | zero=>intro l h; exact h
      | succ f ih =>
        intro l h
        by_cases hb:1 < l.length
        · rw [above_big hb]; exact ih _ (ids_sha _)
        · rw [above_small hb]; exact h
    have h1:=hids (d.length + 1) ((rowsD d).map sha) (ids_sha _)
    rw [ht] at h1
    unfold topF aboveD
    rw [ht]
    exact h1 top (by simp)
def ndF (kind:Int) (d:List UInt8):Nd:=(kind,(d.length:Int),(lev (d.length:Int):Int),topF d)
theorem node_parse {kind:Int} {d:List UInt8} (hk:kind=1∨kind=2) (hd:d.length≤4096):parseI (nodeF kind d)=(ndF kind d,0):=by
  have hw:=node_wrong hk hd
  unfold nodeF inodeR
  rw [if_pos hw,parse_inode (topF_length d) hw]
  unfold ndF
  rw [lev_eq hd]
theorem node_mem (kind:Int) (d:List UInt8):nodeF kind d ∈ blocksF kind d:=by unfold blocksF; simp
theorem inodeV_F {V:VW} {kind:Int} {d:List UInt8} (hV:HasF V kind d) (hk:kind=1∨kind=2) (hd:d.length≤4096):inodeV V (idF kind d)=(ndF kind d,0):=by
  unfold inodeV idF
  rw [hV _ (node_mem kind d)]
  exact node_parse hk hd
theorem rowV_F {V:VW} {kind:Int} {d:List UInt8} (hV:HasF V kind d) (hd:d.length≤4096) {k:Nat} (hk:k * 64 < d.length):rowV V d.length (lev (d.length:Int)) (topF d) k=((d.drop (k * 64)).take 64,0):=by
  have hr:(rowsD d).length=(d.length + 63) / 64:=by simp [rowsD]
  obtain ⟨top,ht⟩:=above_one (d.length + 1) ((rowsD d).map sha) (by rw [List.length_map,hr]; omega) (by
    intro hc
    have:((rowsD d).map sha).length=0:=by rw [hc]; rfl
    rw [List.length_map,hr] at this
    omega)
  have htop:topF d=top:=by unfold topF aboveD; rw [ht]; rfl
  have hA:=rowA_above (V:=V) (d.length + 1) ((rowsD d).map sha) top (ids_sha _) ht (fun b hb=>hV b (by unfold blocksF aboveD; simp [hb])) k (by rw [List.length_map,hr]; omega)
  have hbk:(rowsD d)[k]?=some (blkD d k):=by
    unfold rowsD
    rw [List.getElem?_map,List.getElem?_range (by omega)]
    rfl
  have e:((rowsD d).map sha).getD k []=sha (blkD d k):=by
    rw [List.getD_eq_getElem?_getD,List.getElem?_map,hbk]
    rfl
  rw [e] at hA
  have hl:(above (d.length + 1) ((rowsD d).map sha)).2.1=lev (d.length:Int):=lev_eq hd
  rw [hl] at hA
  unfold rowV rowE2
  rw [htop,hA]
  dsimp only
  rw [if_neg (fun h=>h rfl),hV (blkD d k) (by unfold blocksF; have:=List.mem_of_getElem? hbk; simp [this])]
  dsimp only
  have hlen:(blkD d k).length=1 + min 64 (d.length - k * 64):=by unfold blkD; rw [List.length_cons,List.length_take,List.length_drop]; omega
  rw [if_neg]
  · rfl
  · rintro (h | h)
    · exact h hlen
    · exact h rfl
theorem pieceF (E:List UInt8) (a:Nat) (ha:a≤64):(E.take 64).drop a++E.drop 64=E.drop a:=by
  by_cases h:64≤E.length
  · conv=>rhs; rw [← List.take_append_drop 64 E]
    rw [List.drop_append_of_le_length (by rw [List.length_take]; omega)]
  · rw [List.take_of_length_le (by omega),List.drop_of_length_le (i:=64) (by omega),List.append_nil]
theorem bytesA_F {V:VW} {kind:Int} {d:List UInt8} (hV:HasF V kind d) (hd:d.length≤4096) {frm to:Nat} (hto:to≤d.length):∀ (f k:Nat) (acc:List UInt8),to < f + k→frm≤k * 64 + 63→bytesA V d.length (lev (d.length:Int)) (topF d) frm to f k acc=(acc++(d.take to).drop (max frm (k * 64)),0)
  | 0,k,acc,h,_=>by
    rw [bytesA,List.drop_of_length_le (by rw [List.length_take]; omega),List.append_nil]
  | f + 1,k,acc,h,hf=>by
    by_cases hk:k * 64 < to
    · have hr:=rowV_F hV hd (k:=k) (by omega)
      rw [bytesA_next hk (by rw [hr]),hr,bytesA_F hV hd hto f (k + 1) _ (by omega) (by omega),List.append_assoc]
      congr 2
      have e1:((d.drop (k * 64)).take 64).take (min (to - k * 64) ((d.drop (k * 64)).take 64).length)=((d.take to).drop (k * 64)).take 64:=by
        rw [List.drop_take,List.take_take,List.take_take,List.length_take,List.length_drop]
        by_cases h1:to - k * 64≤64
        · congr 1; omega
        · congr 1; omega
      have e2:max frm (k * 64)=k * 64 + (frm - k * 64):=by omega
      have e3:max frm ((k + 1) * 64)=k * 64 + 64:=by omega
      show ((((d.drop (k * 64)).take 64).take (min (to - k * 64) ((d.drop (k * 64)).take 64).length)).drop (frm - k * 64))++_=_
      rw [e1,e2,e3,← List.drop_drop,← List.drop_drop]
      exact pieceF _ _ (by omega)
    · rw [bytesA_end hk,List.drop_of_length_le (by rw [List.length_take]; omega),List.append_nil]
theorem bytesV_F {V:VW} {kind:Int} {d:List UInt8} (hV:HasF V kind d) (hd:d.length≤4096) {frm to:Nat} (hto:to≤d.length):bytesV V (ndF kind d) frm to=((d.take to).drop frm,0):=by
  unfold bytesV
  split
  · show bytesA V (Int.toNat (d.length:Int)) (Int.toNat (lev (d.length:Int):Int)) (topF d) frm to (to + 1) (frm / 64) []=_
    rw [Int.toNat_natCast,Int.toNat_natCast,bytesA_F hV hd hto _ _ _ (by omega) (by omega),List.nil_append]
    congr 2
    omega
  · rw [List.drop_of_length_le (by rw [List.length_take]; omega)]
theorem dirV_F {V:VW} {es:List Ent} (hE:Ents es) (h0:dirE es=0) (hV:HasF V 2 (dirR es)) (hd:(dirR es).length≤4096):dirV V (ndF 2 (dirR es))=(es,0):=by
  have hb:=bytesV_F hV hd (frm:=0) (to:=(dirR es).length) (Nat.le_refl _)
  have e:(ndF 2 (dirR es)).2.1.toNat=(dirR es).length:=Int.toNat_natCast _
  unfold dirV
  rw [if_neg (fun h=>h rfl),e,hb]
  simp only [List.drop_zero,List.take_length]
  rw [if_neg (fun h=>h rfl),par_dirR hE h0]
open Go.RowKit
def esT:HT→List Ent
  | .mk _ _ _ dirs files=>sortN (fileEs files++entsD dirs)
theorem idT_es:∀ T:HT,idT T=idF 2 (dirR (esT T))
  | .mk _ _ _ _ _=>by rw [idT]; rfl
structure PsGood (ps:List PN):Prop where
  few:ps.length≤20
  names:∀ p ∈ ps,∀ n ∈ p.1,checkN n=0
  short:∀ p ∈ ps,p.2.length≤1000
theorem subP_len (n:List UInt8):∀ ps:List PN,(subP n ps).length≤ps.length
  | []=>Nat.le_refl _
  | p::ps=>by
    have:=subP_len n ps
    rw [subP]
    split
    · split
      · simp only [List.length_cons]; omega
      · simp only [List.length_cons]; omega
    · simp only [List.length_cons]; omega
theorem PsGood.sub {ps:List PN} (h:PsGood ps) (n:List UInt8):PsGood (subP n ps):=by
  refine ⟨Nat.le_trans (subP_len n ps) h.few,fun p hp m hm=>?_,fun p hp=>?_⟩
  · obtain ⟨k,q,h1,h2⟩:=subP_mem hp
    rw [h1] at hm
    exact h.names _ h2 m (List.mem_cons_of_mem _ hm)
  · obtain ⟨k,q,h1,h2⟩:=subP_mem hp
    have h3:=h.short (n::k::q,p.2) h2
    exact h3
section
variable {g gd gf:Nat} {dirs:List (List UInt8 × HT)} {files:List F3} {ps:List PN}
theorem rel_file (hr:Rel (.mk g gd gf dirs files) ps) {x:F3} (hx:x ∈ files):([x.1],x.2.2) ∈ ps:=by
  rw [Rel_mk] at hr
  have:(([x.1],x.2.2):PN) ∈ files.map (fun f=>(([f.1],f.2.2):PN)):=List.mem_map_of_mem (f:=fun f=>(([f.1],f.2.2):PN)) hx
  rw [hr.2.1] at this
  exact (List.mem_filter.1 this).1
theorem rel_sub (hr:Rel (.mk g gd gf dirs files) ps) {y:List UInt8 × HT} (hy:y ∈ dirs):Rel y.2 (subP y.1 ps)∧∃ k q d,(y.1::k::q,d) ∈ ps:=by
  rw [Rel_mk] at hr
  refine ⟨RelL_iff.1 hr.2.2.2.2.2 y hy,?_⟩
  have:=(hr.2.2.1 y.1).2 (List.mem_map_of_mem hy)
  cases hs:subP y.1 ps with
  | nil=>exact absurd hs this
  | cons r l =>
    obtain ⟨k,q,_,hm⟩:=subP_mem (show r ∈ subP y.1 ps by rw [hs]; simp)
    exact ⟨k,q,_,hm⟩
theorem esT_names (hr:Rel (.mk g gd gf dirs files) ps):((esT (.mk g gd gf dirs files)).map (·.1)).Nodup:=by
  have h4:=(Rel_mk.1 hr).2.2.2.1
  have hp:((esT (.mk g gd gf dirs files)).map (·.1)).Perm ((fileEs files++entsD dirs).map (·.1)):=(sortN_perm _).map _
  rw [hp.nodup_iff,List.map_append,entsD_map,fileEs,List.map_map,List.map_map]
  exact h4
theorem esT_mem {e:Ent}:e ∈ esT (.mk g gd gf dirs files) ↔ (∃ x ∈ files,(x.1,idF 1 x.2.2)=e)∨∃ y ∈ dirs,(y.1,idT y.2)=e:=by
  show e ∈ sortN _ ↔ _
  rw [(sortN_perm _).mem_iff,List.mem_append,entsD_map]
  unfold fileEs
  simp only [List.mem_map]
theorem esT_ents:Ents (esT (.mk g gd gf dirs files)):=fun e he=>by
  rcases esT_mem.1 he with ⟨x,_,rfl⟩ | ⟨y,_,rfl⟩
  · exact sha_length _
  · exact idT_length _
theorem rise_of_sort:∀ {es:List Ent},SortN es→∀ k,riseP (nms es) k∨es.length < k:=by
  intro es hs k
  by_cases hk:es.length < k
  · exact .inr hk
  · refine .inl fun j hj h1=>?_
    rw [nms_at (by omega),nms_at (by omega)]
    have:=List.pairwise_iff_getElem.1 hs (j - 1) j (by omega) (by omega) (by omega)
    rw [List.getD_eq_getElem?_getD,List.getD_eq_getElem?_getD,List.getElem?_eq_getElem (by omega),List.getElem?_eq_getElem (by omega)]
    exact this
theorem esT_good (hr:Rel (.mk g gd gf dirs files) ps) (hp:PsGood ps):dirE (esT (.mk g gd gf dirs files))=0:=by
  have h6:=(Rel_mk.1 hr).2.2.2.2.1
  have hl:(esT (.mk g gd gf dirs files)).length=files.length + dirs.length:=by
    have h:=(sortN_perm (fileEs files++entsD dirs)).length_eq
    show (sortN (fileEs files++entsD dirs)).length=_
    rw [h,List.length_append,entsD_map,fileEs,List.length_map,List.length_map]
  refine dirE_ok (firstBad_all fun n hn=>?_) ?_ (by have:=hp.few; omega)
  · obtain ⟨e,he,rfl⟩:=List.mem_map.1 hn
    rcases esT_mem.1 he with ⟨x,hx,rfl⟩ | ⟨y,hy,rfl⟩
    · exact hp.names _ (rel_file hr hx) x.1 (by simp)
    · obtain ⟨_,k,q,d,hm⟩:=rel_sub hr hy
      exact hp.names _ hm y.1 (by simp)
  · have hs:SortN (esT (.mk g gd gf dirs files)):=sortN_sort (by
      have:=(Rel_mk.1 hr).2.2.2.1
      rw [List.map_append,entsD_map,fileEs,List.map_map,List.map_map]
      exact this)
    rcases rise_of_sort hs (esT (.mk g gd gf dirs files)).length with h | h
    · exact h
    · omega
theorem esT_len (hr:Rel (.mk g gd gf dirs files) ps) (hp:PsGood ps):(dirR (esT (.mk g gd gf dirs files))).length≤4096:=by
  have h0:=esT_good hr hp
  unfold dirR
  rw [if_pos h0]
  obtain ⟨h1,h2⟩:=dirE_zero h0
  have:=dirTo_len esT_ents h1 (esT (.mk g gd gf dirs files)).length
  rw [dirTo_all] at this
  have h3:(48 + 33) * (esT (.mk g gd gf dirs files)).length≤81 * 20:=Nat.mul_le_mul_left 81 h2
  omega
end
theorem find_ent {es:List Ent} (hn:(es.map (·.1)).Nodup) {e:Ent} (he:e ∈ es):es.find? (fun x=>decide (x.1=e.1))=some e:=by
  induction es with
  | nil=>cases he
  | cons x l ih =>
    rw [List.map_cons,List.nodup_cons] at hn
    rcases List.mem_cons.1 he with rfl | he
    · simp [List.find?]
    · have:¬ x.1=e.1:=fun h=>hn.1 (by rw [h]; exact List.mem_map_of_mem he)
      rw [List.find?_cons]
      simp only [this,decide_false]
      exact ih hn.2 he
def findT:List (List UInt8)→HT→Nd × Int
  | [],T=>(ndF 2 (dirR (esT T)),0)
  | n::r,.mk _ _ _ dirs files=>match lookA n files with
    | some p=>if r=[] then (ndF 1 p.2,0) else (nd0,3)
    | none=>match lookA n dirs with
      | some t=>findT r t
      | none=>(nd0,2)
def HasT (V:VW) (T:HT):Prop:=∀ b ∈ blocksT T,V (sha b)=some b
section
variable {V:VW} {g gd gf:Nat} {dirs:List (List UInt8 × HT)} {files:List F3} {ps:List PN}
theorem HasT.self (h:HasT V (.mk g gd gf dirs files)):HasF V 2 (dirR (esT (.mk g gd gf dirs files))):=fun b hb=>h b (by rw [blocksT]; exact List.mem_append.2 (.inr hb))
theorem HasT.file (h:HasT V (.mk g gd gf dirs files)) {x:F3} (hx:x ∈ files):HasF V 1 x.2.2:=fun b hb=>h b (by
  rw [blocksT]
  refine List.mem_append.2 (.inl (List.mem_append.2 (.inl ?_)))
  unfold fileBs
  rw [List.mem_flatten]
  exact ⟨_,List.mem_map_of_mem (f:=fun f:F3=>blocksF 1 f.2.2) hx,hb⟩)
theorem HasT.sub (h:HasT V (.mk g gd gf dirs files)) {y:List UInt8 × HT} (hy:y ∈ dirs):HasT V y.2:=fun b hb=>h b (by
  rw [blocksT]
  refine List.mem_append.2 (.inl (List.mem_append.2 (.inr ?_)))
  rw [blocksDs_map,List.mem_flatten]
  exact ⟨_,List.mem_map_of_mem (f:=fun d:List UInt8 × HT=>blocksT d.2) hy,hb⟩)
end
theorem dirV_T {V:VW}:∀ {T:HT} {ps:List PN},Rel T ps→PsGood ps→HasT V T→dirV V (ndF 2 (dirR (esT T)))=(esT T,0)
  | .mk g gd gf dirs files,ps,hr,hp,hV=>dirV_F esT_ents (esT_good hr hp) hV.self (esT_len hr hp)
theorem inodeV_T {V:VW}:∀ {T:HT} {ps:List PN},Rel T ps→PsGood ps→HasT V T→inodeV V (idT T)=(ndF 2 (dirR (esT T)),0)
  | .mk g gd gf dirs files,ps,hr,hp,hV=>by
    rw [idT_es]
    exact inodeV_F hV.self (.inr rfl) (esT_len hr hp)
theorem findV_T {V:VW}:∀ (path:List (List UInt8)) (T:HT) (ps:List PN),Rel T ps→PsGood ps→HasT V T→findV V path (ndF 2 (dirR (esT T)))=findT path T
  | [],T,ps,hr,hp,hV=>rfl
  | n::r,.mk g gd gf dirs files,ps,hr,hp,hV=>by
    have hd:=dirV_T hr hp hV
    have hnn:=esT_names hr
    rw [findV,hd]
    simp only
    rw [if_neg (fun h=>h rfl),findT]
    cases hf:lookA n files with
    | some p =>
      have hm:=lookA_mem hf
      have he:((n,idF 1 p.2):Ent) ∈ esT (.mk g gd gf dirs files):=esT_mem.2 (.inl ⟨(n,p),hm,rfl⟩)
      have:=find_ent hnn he
      simp only at this
      rw [this]
      have hi:=inodeV_F (hV.file hm) (.inl rfl) (by show p.2.length≤4096; have:=hp.short _ (rel_file hr hm); simp only at this; omega)
      simp only at hi
      simp only [hi]
      rw [if_neg (fun h=>h rfl)]
      cases r with
      | nil=>rw [if_pos rfl]; rfl
      | cons k q =>
        rw [if_neg (by simp),findV]
        have hk:dirV V (ndF 1 p.2)=([],3):=by unfold dirV; rw [if_pos (by show ¬ (1:Int)=2; decide)]
        rw [hk,if_pos (by decide)]
        rfl
    | none =>
      have hnf:=lookA_none.1 hf
      cases hdd:lookA n dirs with
      | some t =>
        have hm:=lookA_mem hdd
        have he:((n,idT t):Ent) ∈ esT (.mk g gd gf dirs files):=esT_mem.2 (.inr ⟨(n,t),hm,rfl⟩)
        have:=find_ent hnn he
        simp only at this
        rw [this]
        have hrt:=(rel_sub hr hm).1
        have hi:=inodeV_T hrt (hp.sub n) (hV.sub hm)
        simp only at hi
        simp only [hi]
        rw [if_neg (fun h=>h rfl)]
        exact findV_T r t _ hrt (hp.sub n) (hV.sub hm)
      | none =>
        have hnd:=lookA_none.1 hdd
        have:(esT (.mk g gd gf dirs files)).find? (fun x=>decide (x.1=n))=none:=by
          rw [List.find?_eq_none]
          intro x hx hc
          simp at hc
          rcases esT_mem.1 hx with ⟨y,hy,rfl⟩ | ⟨y,hy,rfl⟩
          · exact hnf (by rw [← hc]; exact List.mem_map_of_mem hy)
          · exact hnd (by rw [← hc]; exact List.mem_map_of_mem hy)
        rw [this]
theorem pathV_T {V:VW} {T:HT} {ps:List PN} (hr:Rel T ps) (hp:PsGood ps) (hV:HasT V T) (path:List UInt8):pathV V (idT T) path=if (splitN path).2≠0 then (nd0,((splitN path).2:Int)) else findT (splitN path).1 T:=by
  unfold pathV
  have hi:=inodeV_T hr hp hV
  split
  · rfl
  · rw [hi,if_neg (fun h=>h rfl)]
    exact findV_T _ T ps hr hp hV
theorem findT_part:∀ (p:List (List UInt8)) (d:List UInt8) (T:HT) (ps:List PN),Rel T ps→(p,d) ∈ ps→∀ r:List (List UInt8),findT (p++r) T=if r=[] then (ndF 1 d,0) else (nd0,3)
  | [],d,.mk g gd gf dirs files,ps,hr,hm,r=>absurd rfl ((Rel_mk.1 hr).1 _ hm)
  | [n],d,.mk g gd gf dirs files,ps,hr,hm,r=>by
    have h2:=(Rel_mk.1 hr).2.1
    have h4:=(Rel_mk.1 hr).2.2.2.1
    have hm2:(([n],d):PN) ∈ ps.filter oneP:=List.mem_filter.2 ⟨hm,rfl⟩
    rw [← h2] at hm2
    obtain ⟨x,hx,he⟩:=List.mem_map.1 hm2
    have h1:x.1=n:=by simpa using congrArg (fun q:PN=>q.1) he
    have h3:x.2.2=d:=congrArg (fun q:PN=>q.2) he
    have hnf:=(List.nodup_append.1 h4).1
    have hlk:lookA n files=some x.2:=by
      clear h2 h4 hm2 hr hm he
      induction files with
      | nil=>cases hx
      | cons y l ih =>
        rw [List.map_cons,List.nodup_cons] at hnf
        rw [lookA]
        rcases List.mem_cons.1 hx with rfl | hx
        · rw [if_pos h1.symm]
        · rw [if_neg (fun h=>hnf.1 (by rw [← h,← h1]; exact List.mem_map_of_mem hx))]
          exact ih hx hnf.2
    rw [List.singleton_append,findT,hlk]
    simp only [h3]
  | n::k::q,d,.mk g gd gf dirs files,ps,hr,hm,r=>by
    have h3:=(Rel_mk.1 hr).2.2.1
    have h4:=(Rel_mk.1 hr).2.2.2.1
    have hin:=(h3 n).1 (fun h=>by have:=mem_subP hm; rw [h] at this; cases this)
    have hlf:lookA n files=none:=lookA_none.2 fun h=>(List.nodup_append.1 h4).2.2 n h n hin rfl
    cases hdd:lookA n dirs with
    | none=>exact absurd hin (lookA_none.1 hdd)
    | some t =>
      rw [List.cons_append,findT,hlf,hdd]
      exact findT_part (k::q) d t _ (rel_sub hr (lookA_mem hdd)).1 (mem_subP hm) r
theorem findT_up:∀ (p:List (List UInt8)) (n:List UInt8) (d:List UInt8) (T:HT) (ps:List PN),Rel T ps→(p++[n],d) ∈ ps→∃ T2 ps2,Rel T2 ps2∧findT p T=(ndF 2 (dirR (esT T2)),0)∧n ∈ (esT T2).map (·.1)∧(PsGood ps→PsGood ps2)∧(∀ V,HasT V T→HasT V T2)
  | [],n,d,.mk g gd gf dirs files,ps,hr,hm=>by
    refine ⟨_,ps,hr,rfl,?_,id,fun _=>id⟩
    have h2:=(Rel_mk.1 hr).2.1
    have hm2:(([n],d):PN) ∈ ps.filter oneP:=List.mem_filter.2 ⟨hm,rfl⟩
    rw [← h2] at hm2
    obtain ⟨x,hx,he⟩:=List.mem_map.1 hm2
    have h1:x.1=n:=by simpa using congrArg (fun q:PN=>q.1) he
    exact List.mem_map.2 ⟨_,esT_mem.2 (.inl ⟨x,hx,rfl⟩),h1⟩
  | m::p,n,d,.mk g gd gf dirs files,ps,hr,hm=>by
    have hm':∃ k q,p++[n]=k::q:=by cases p with
      | nil=>exact ⟨n,[],rfl⟩
      | cons k q=>exact ⟨k,q++[n],rfl⟩
    obtain ⟨k,q,hkq⟩:=hm'
    have hm3:(m::k::q,d) ∈ ps:=by rw [← hkq]; exact hm
    have h3:=(Rel_mk.1 hr).2.2.1
    have h4:=(Rel_mk.1 hr).2.2.2.1
    have hin:=(h3 m).1 (fun h=>by have:=mem_subP hm3; rw [h] at this; cases this)
    have hlf:lookA m files=none:=lookA_none.2 fun h=>(List.nodup_append.1 h4).2.2 m h m hin rfl
    cases hdd:lookA m dirs with
    | none=>exact absurd hin (lookA_none.1 hdd)
    | some t =>
      rw [findT,hlf,hdd]
      obtain ⟨T2,ps2,a1,a2,a3,a4,a5⟩:=findT_up p n d t _ (rel_sub hr (lookA_mem hdd)).1 (by rw [hkq]; exact mem_subP hm3)
      exact ⟨T2,ps2,a1,a2,a3,fun h=>a4 (h.sub m),fun V h=>a5 V (h.sub (lookA_mem hdd))⟩
open Go.RowKit
theorem splitN_zero {p:List UInt8} (h:(splitN p).2=0) (hne:p≠[47]):noPath p=false∧allN (splitL (p.drop 1))=0∧(splitN p).1=splitL (p.drop 1):=by
  unfold splitN at h ⊢
  rw [if_neg hne] at h ⊢
  split at h
  · cases h
  · rename_i h1
    split at h
    · rename_i h2; exact absurd h h2
    · rename_i h2
      rw [if_neg h1,if_neg h2]
      exact ⟨by simpa using h1,Classical.byContradiction h2,rfl⟩
theorem jn_drop {ls:List (List UInt8)} (h:ls≠[]):(jn ls).drop 1=joinL ls:=by rw [jn_join h]; rfl
theorem pathOk_split {p:List UInt8} (hp:PathOk p) (h:(splitN p).2=0):∃ ls,ls≠[]∧(∀ n ∈ ls,n.length≤2∧(47:UInt8) ∉ n∧n≠[])∧p=jn ls∧(splitN p).1=ls∧allN ls=0:=by
  obtain ⟨ls,h1,h2,rfl⟩:=hp
  have hne:jn ls≠[47]:=fun hc=>by
    match ls,h1,h2 with
    | n::r,_,h2 =>
      have h3:=(h2 n (by simp)).2.2
      have h4:=congrArg List.length hc
      have h5:0 < n.length:=List.length_pos_iff.2 h3
      simp [jn] at h4
      exact h3 h4.1
  obtain ⟨a1,a2,a3⟩:=splitN_zero h hne
  rw [jn_drop h1,splitL_join h1 (fun x hx=>(h2 x hx).2.1)] at a2 a3
  exact ⟨ls,h1,h2,rfl,a3,a2⟩
theorem parts_good {xs:List F3} (h:buildE xs=0):PsGood (partsN xs):=by
  obtain ⟨h1,h2⟩:=buildE_wrong h
  refine ⟨by unfold partsN; rw [List.length_map]; exact h1,fun p hp n hn=>?_,fun p hp=>((parts_ok h).2 p hp).1⟩
  unfold partsN at hp
  obtain ⟨x,hx,rfl⟩:=List.mem_map.1 hp
  obtain ⟨h3,h4,_⟩:=wrongI_zero (h2 x hx)
  by_cases hne:x.1=[47]
  · have:pathOf x=[]:=by unfold pathOf splitN; rw [if_pos hne]
    exact absurd this h4
  · obtain ⟨_,a2,a3⟩:=splitN_zero h3 hne
    have hn':n ∈ splitL (x.1.drop 1):=by rw [← a3]; exact hn
    unfold allN at a2
    split at a2
    · cases a2
    · exact firstBad_zero a2 n hn'
structure Whole3 (xs:List F3) (T:HT) (V:VW):Prop where
  rel:Rel T (partsN xs)
  good:PsGood (partsN xs)
  has:HasT V T
theorem whole3 {xs:List F3} {T:HT} {l:List TB} (hb:buildE xs=0) (hf:Filled xs T) (ht:TreeOf (blocksT T) l) (hm:(putsT ([],false) (dirI 5 (partsN xs)).2).2=false):Whole3 xs T (viewT l):=by
  have hrd:=rel_dir 4 T _ hf.rel (fun p hp=>((parts_ok hb).2 p hp).2)
  exact ⟨hf.rel,parts_good hb,fun b hbm=>viewT_built ht ((putsT_apart hm).sub hrd.2) hbm⟩
section
variable {xs:List F3} {T:HT} {V:VW} (hw:Whole3 xs T V) (hb:buildE xs=0) (hs:Short3 xs) {x:F3} (hx:x ∈ xs)
include hw hb hs hx
theorem part_mem:(pathOf x,x.2.2) ∈ partsN xs:=List.mem_map_of_mem (f:=fun x:F3=>(pathOf x,x.2.2)) hx
theorem path_file:(splitN x.1).2=0∧pathV V (idT T) x.1=(ndF 1 x.2.2,0):=by
  obtain ⟨h3,_,_⟩:=wrongI_zero ((buildE_wrong hb).2 x hx)
  refine ⟨h3,?_⟩
  rw [pathV_T hw.rel hw.good hw.has,if_neg (fun h=>h h3)]
  have:=findT_part (pathOf x) x.2.2 T _ hw.rel (part_mem hw hb hs hx) []
  rw [List.append_nil,if_pos rfl] at this
  exact this
end
open Go.RowKit
open Go.RowKit
set_option maxRecDepth 8000
theorem pw8 (j:Nat):1≤8 ^ j:=Nat.one_le_pow _ _ (by decide)
def Lq:Nat→List (List UInt8)→List (List UInt8)
  | 0,l=>l
  | j + 1,l=>Lq j ((rowsI l).map sha)
theorem Lq_succ:∀ (j:Nat) (l:List (List UInt8)),Lq (j + 1) l=(rowsI (Lq j l)).map sha
  | 0,l=>rfl
  | j + 1,l=>by
    rw [Lq,Lq_succ j]
    rfl
theorem Lq_ids {l:List (List UInt8)} (h:Ids l):∀ j,Ids (Lq j l)
  | 0=>h
  | j + 1=>by rw [Lq_succ]; exact ids_sha _
theorem above_Lq:∀ (f:Nat) (l:List (List UInt8)),(above f l).2.2=Lq (above f l).2.1 l∧∀ b,b ∈ (above f l).1 ↔ ∃ j,j < (above f l).2.1∧b ∈ rowsI (Lq j l)
  | 0,l=>⟨rfl,fun b=>⟨fun h=>absurd h (by rw [above]; simp),fun ⟨j,hj,_⟩=>absurd hj (Nat.not_lt_zero j)⟩⟩
  | f + 1,l=>by
    by_cases hl:1 < l.length
    · obtain ⟨h1,h2⟩:=above_Lq f ((rowsI l).map sha)
      rw [above_big hl]
      dsimp only
      refine ⟨h1,fun b=>?_⟩
      rw [List.mem_append,h2]
      constructor
      · rintro (h | ⟨j,hj,hb⟩)
        · exact ⟨0,by omega,h⟩
        · exact ⟨j + 1,by omega,hb⟩
      · rintro ⟨j,hj,hb⟩
        cases j with
        | zero=>exact .inl hb
        | succ j=>exact .inr ⟨j,by omega,hb⟩
    · rw [above_small hl]
      exact ⟨rfl,fun b=>⟨fun h=>absurd h (by simp),fun ⟨j,hj,_⟩=>absurd hj (Nat.not_lt_zero j)⟩⟩
theorem Lq_len {l:List (List UInt8)} {n:Nat} (hl:l.length=(n - 1) / 64 + 1):∀ j,(Lq j l).length=(n - 1) / (64 * 8 ^ j) + 1
  | 0=>by rw [Nat.pow_zero,Nat.mul_one]; exact hl
  | j + 1=>by
    have e:64 * 8 ^ (j + 1)=64 * 8 ^ j * 8:=by rw [Nat.pow_succ,Nat.mul_assoc]
    rw [Lq_succ,List.length_map,rowsI_length,Lq_len hl j,e,← Nat.div_div_eq_div_mul (n - 1) (64 * 8 ^ j) 8]
    generalize (n - 1) / (64 * 8 ^ j)=q
    omega
theorem ar1 {n e k:Nat} (he:1≤e) (hk:k * (8 * e) < n):min 8 ((n - 1) / e + 1 - k * 8)=(min (8 * e) (n - k * (8 * e)) + e - 1) / e:=by
  obtain ⟨N,hN⟩:∃ N,n=N + k * (8 * e):=⟨n - k * (8 * e),by omega⟩
  have hN1:1≤N:=by omega
  have e1:n - 1=(N - 1) + (k * 8) * e:=by rw [Nat.mul_assoc]; omega
  have e2:(n - 1) / e=(N - 1) / e + k * 8:=by rw [e1,Nat.add_mul_div_right _ _ (by omega)]
  have e3:n - k * (8 * e)=N:=by omega
  rw [e2,e3]
  by_cases h:8 * e≤N
  · rw [Nat.min_eq_left h]
    have h7:7≤(N - 1) / e:=(Nat.le_div_iff_mul_le (by omega)).2 (by omega)
    have h8:(8 * e + e - 1) / e=8:=by
      rw [show 8 * e + e - 1=(e - 1) + 8 * e by omega,Nat.add_mul_div_right _ _ (by omega),Nat.div_eq_of_lt (by omega)]
    rw [h8]
    omega
  · rw [Nat.min_eq_right (show N≤8 * e by omega),show N + e - 1=(N - 1) + 1 * e by omega,Nat.add_mul_div_right _ _ (by omega)]
    have h7:(N - 1) / e < 8:=(Nat.div_lt_iff_lt_mul (by omega)).2 (by omega)
    generalize (N - 1) / e=q at h7 ⊢
    omega
theorem ar2 {n e k i:Nat} (hi:i < 8) (hk:k * (8 * e) < n):min e (min (8 * e) (n - k * (8 * e)) - i * e)=min e (n - (k * 8 + i) * e):=by
  have h1:i * e≤7 * e:=Nat.mul_le_mul_right e (by omega)
  have h2:(k * 8 + i) * e=k * (8 * e) + i * e:=by rw [Nat.add_mul,Nat.mul_assoc]
  rw [h2]
  omega
theorem kids_all {F:List UInt8→Nat→List (List UInt8) × Bool} {each size:Nat}:∀ (l:List (List UInt8)) (i0:Nat),(∀ i,i < l.length→(F (l.getD i []) (min each (size - (i0 + i) * each))).2=true)→(kidsW F each size i0 l).2=true
  | [],i0,h=>rfl
  | x::r,i0,h=>by
    have h0:=h 0 (by simp)
    rw [kidsW]
    simp only [List.getD_cons_zero,Nat.add_zero] at h0
    rw [if_pos h0]
    refine kids_all r (i0 + 1) fun i hi=>?_
    have:=h (i + 1) (by simp; omega)
    simp only [List.getD_cons_succ] at this
    rw [show i0 + 1 + i=i0 + (i + 1) by omega]
    exact this
section
variable {V:VW} {kind:Int} {d:List UInt8} (hV:HasF V kind d) (hd:d.length≤4096) (h0:0 < d.length)
include hV hd h0
theorem lq0_len:((rowsD d).map sha).length=(d.length - 1) / 64 + 1:=by rw [List.length_map,rowsD_length]; omega
theorem inner_there {j:Nat} (hj:j < lev (d.length:Int)) {b:List UInt8} (hb:b ∈ rowsI (Lq j ((rowsD d).map sha))):V (sha b)=some b:=hV b (by
  unfold blocksF
  refine List.mem_append.2 (.inl (List.mem_append.2 (.inr ?_)))
  unfold aboveD
  rw [(above_Lq _ _).2]
  have:=lev_eq hd
  unfold aboveD at this
  exact ⟨j,by rw [this]; exact hj,hb⟩)
theorem inner_parse {j k:Nat} (hj:j < lev (d.length:Int)) (hk:k < (Lq (j + 1) ((rowsD d).map sha)).length):V ((Lq (j + 1) ((rowsD d).map sha)).getD k [])=some (blkI (Lq j ((rowsD d).map sha)) k)∧parseNE (blkI (Lq j ((rowsD d).map sha)) k)=0∧parseNL (blkI (Lq j ((rowsD d).map sha)) k)=((Lq j ((rowsD d).map sha)).drop (k * 8)).take 8:=by
  have hk2:=hk
  rw [Lq_succ,List.length_map,rowsI_length] at hk2
  have hm:blkI (Lq j ((rowsD d).map sha)) k ∈ rowsI (Lq j ((rowsD d).map sha)):=List.mem_map.2 ⟨k,List.mem_range.2 hk2,rfl⟩
  have e:(Lq (j + 1) ((rowsD d).map sha)).getD k []=sha (blkI (Lq j ((rowsD d).map sha)) k):=by
    rw [Lq_succ,List.getD_eq_getElem?_getD,List.getElem?_map]
    unfold rowsI
    rw [List.getElem?_map,List.getElem?_range hk2]
    rfl
  have hids:=Lq_ids (ids_sha (rowsD d)) j
  have hlen:(((Lq j ((rowsD d).map sha)).drop (k * 8)).take 8).length=min 8 ((Lq j ((rowsD d).map sha)).length - k * 8):=by rw [List.length_take,List.length_drop]
  have hE:innerE (((Lq j ((rowsD d).map sha)).drop (k * 8)).take 8)=0:=by
    unfold innerE
    rw [hlen,if_neg (by omega),if_neg (by omega)]
  obtain ⟨h1,h2⟩:=parse_inner (ids_take hids (k * 8) 8) hE
  exact ⟨by rw [e]; exact inner_there hV hd h0 hj hm,h1,h2⟩
theorem rows_good:∀ (j:Nat),j≤lev (d.length:Int)→∀ k,k < (Lq j ((rowsD d).map sha)).length→(rowsW V j ((Lq j ((rowsD d).map sha)).getD k []) (min (64 * 8 ^ j) (d.length - k * (64 * 8 ^ j)))).2=true
  | 0,hj,k,hk=>by
    have hk2:k < (d.length + 63) / 64:=by have:=hk; rw [Lq,List.length_map,rowsD_length] at this; exact this
    have hbk:(rowsD d)[k]?=some (blkD d k):=by
      unfold rowsD
      rw [List.getElem?_map,List.getElem?_range hk2]
      rfl
    have e:(Lq 0 ((rowsD d).map sha)).getD k []=sha (blkD d k):=by
      rw [Lq,List.getD_eq_getElem?_getD,List.getElem?_map,hbk]
      rfl
    rw [e,rowsW,hV (blkD d k) (by unfold blocksF; have:=List.mem_of_getElem? hbk; simp [this])]
    dsimp only
    have hlen:(blkD d k).length=1 + min (64 * 8 ^ 0) (d.length - k * (64 * 8 ^ 0)):=by
      rw [Nat.pow_zero,Nat.mul_one]
      unfold blkD
      rw [List.length_cons,List.length_take,List.length_drop]
      omega
    rw [decide_eq_true hlen]
    rfl
  | j + 1,hj,k,hk=>by
    obtain ⟨h1,h2,h3⟩:=inner_parse hV hd h0 (by omega) hk
    have hl:=Lq_len (lq0_len hV hd h0) j
    have hl1:=Lq_len (lq0_len hV hd h0) (j + 1)
    have he8:64 * 8 ^ (j + 1)=8 * (64 * 8 ^ j):=by rw [Nat.pow_succ]; omega
    have hkn:k * (8 * (64 * 8 ^ j)) < d.length:=by
      have h9:k≤(d.length - 1) / (64 * 8 ^ (j + 1)):=by omega
      have h10:=(Nat.le_div_iff_mul_le (by rw [he8]; have:=pw8 j; omega)).1 h9
      rw [he8] at h10
      omega
    have he1:1≤64 * 8 ^ j:=by have:=pw8 j; omega
    rw [rowsW,h1]
    dsimp only
    have hlen:(parseNL (blkI (Lq j ((rowsD d).map sha)) k)).length=(min (64 * 8 ^ (j + 1)) (d.length - k * (64 * 8 ^ (j + 1))) + 64 * 8 ^ j - 1) / (64 * 8 ^ j):=by
      rw [h3,List.length_take,List.length_drop,hl,he8]
      exact ar1 he1 hkn
    rw [if_neg (by rintro (hc | hc); exact hc h2; exact hc hlen)]
    dsimp only
    refine kids_all _ 0 fun i hi=>?_
    have hi2:=hi
    rw [h3,List.length_take,List.length_drop] at hi2
    rw [h3,Nat.zero_add,he8,ar2 (by omega) hkn]
    have e2:(((Lq j ((rowsD d).map sha)).drop (k * 8)).take 8).getD i []=(Lq j ((rowsD d).map sha)).getD (k * 8 + i) []:=by
      rw [List.getD_eq_getElem?_getD,List.getD_eq_getElem?_getD,List.getElem?_take_of_lt (by omega),List.getElem?_drop]
    rw [e2]
    exact rows_good j (by omega) (k * 8 + i) (by omega)
theorem top_lq:Lq (lev (d.length:Int)) ((rowsD d).map sha)=[topF d]∧d.length≤64 * 8 ^ lev (d.length:Int):=by
  have hl0:=lq0_len hV hd h0
  obtain ⟨top,ht⟩:=above_one (d.length + 1) ((rowsD d).map sha) (by rw [hl0]; omega) (by
    intro hc
    rw [hc] at hl0
    simp at hl0)
  have htop:topF d=top:=by unfold topF aboveD; rw [ht]; rfl
  have h1:=(above_Lq (d.length + 1) ((rowsD d).map sha)).1
  have h2:=lev_eq hd
  unfold aboveD at h2
  rw [h2,ht] at h1
  refine ⟨by rw [← h1,htop],?_⟩
  have h3:=Lq_len hl0 (lev (d.length:Int))
  rw [← h1] at h3
  simp only [List.length_singleton] at h3
  have h4:(d.length - 1) / (64 * 8 ^ lev (d.length:Int))=0:=by omega
  have h5:=(Nat.div_eq_zero_iff_lt (by have:=pw8 (lev (d.length:Int)); omega)).1 h4
  omega
theorem body_eq:bodyW V (ndF kind d)=rowsW V (lev (d.length:Int)) (topF d) d.length:=by
  unfold bodyW ndF
  dsimp only
  rw [if_pos (by omega),Int.toNat_natCast,Int.toNat_natCast]
theorem body_top:(rowsW V (lev (d.length:Int)) (topF d) d.length).2=true:=by
  obtain ⟨h1,h2⟩:=top_lq hV hd h0
  have:=rows_good hV hd h0 (lev (d.length:Int)) (Nat.le_refl _) 0 (by rw [h1]; simp)
  rw [h1,Nat.zero_mul,Nat.sub_zero,Nat.min_eq_right h2] at this
  exact this
theorem rows_in:∀ (i j:Nat),j + i=lev (d.length:Int)→∀ x ∈ Lq j ((rowsD d).map sha),∃ s,(rowsW V j x s).2=true∧∀ z ∈ (rowsW V j x s).1,z ∈ (rowsW V (lev (d.length:Int)) (topF d) d.length).1
  | 0,j,hj,x,hx=>by
    rw [Nat.add_zero] at hj
    subst hj
    rw [(top_lq hV hd h0).1,List.mem_singleton] at hx
    subst hx
    exact ⟨_,body_top hV hd h0,fun z hz=>hz⟩
  | i + 1,j,hj,x,hx=>by
    obtain ⟨q,hq⟩:=List.getElem?_of_mem hx
    have hql:=(List.getElem?_eq_some_iff.1 hq).1
    have hq8:q / 8 < (Lq (j + 1) ((rowsD d).map sha)).length:=by rw [Lq_succ,List.length_map,rowsI_length]; omega
    obtain ⟨h1,h2,h3⟩:=inner_parse hV hd h0 (by omega) hq8
    have hpm:(Lq (j + 1) ((rowsD d).map sha)).getD (q / 8) [] ∈ Lq (j + 1) ((rowsD d).map sha):=getD_mem' hq8
    obtain ⟨s,h4,h5⟩:=rows_in i (j + 1) (by omega) _ hpm
    obtain ⟨b,h6,h7,h8,h9⟩:=rowsW_cases h4
    rw [h1] at h6
    injection h6 with h6
    subst h6
    have hxm:x ∈ parseNL (blkI (Lq j ((rowsD d).map sha)) (q / 8)):=by
      rw [h3]
      refine List.mem_of_getElem? (i:=q % 8) ?_
      rw [List.getElem?_take_of_lt (by omega),List.getElem?_drop,show q / 8 * 8 + q % 8=q by omega]
      exact hq
    obtain ⟨s2,h10,h11⟩:=kids_each _ _ h8 hxm
    exact ⟨s2,h10,fun z hz=>h5 z (by rw [h9]; exact List.mem_cons_of_mem _ (h11 z hz))⟩
end
theorem bodyW_F {V:VW} {kind:Int} {d:List UInt8} (hV:HasF V kind d) (hd:d.length≤4096):(bodyW V (ndF kind d)).2=true:=by
  by_cases h0:0 < d.length
  · rw [body_eq hV hd h0]
    exact body_top hV hd h0
  · unfold bodyW ndF
    dsimp only
    rw [if_neg (by omega)]
theorem bodyW_all {V:VW} {kind:Int} {d:List UInt8} (hV:HasF V kind d) (hd:d.length≤4096):∀ b ∈ blocksF kind d,sha b=idF kind d∨sha b ∈ (bodyW V (ndF kind d)).1:=by
  intro b hb
  unfold blocksF at hb
  rcases List.mem_append.1 hb with hb | hb
  · refine .inr ?_
    by_cases h0:0 < d.length
    · rw [body_eq hV hd h0]
      rcases List.mem_append.1 hb with hb | hb
      · obtain ⟨s,h1,h2⟩:=rows_in hV hd h0 (lev (d.length:Int)) 0 (Nat.zero_add _) (sha b) (List.mem_map_of_mem hb)
        exact h2 _ (rowsW_here V _ _ _)
      · unfold aboveD at hb
        obtain ⟨j,hj,hbj⟩:=((above_Lq _ _).2 b).1 hb
        have h2:=lev_eq hd
        unfold aboveD at h2
        rw [h2] at hj
        obtain ⟨s,h3,h4⟩:=rows_in hV hd h0 (lev (d.length:Int) - (j + 1)) (j + 1) (by omega) (sha b) (by rw [Lq_succ]; exact List.mem_map_of_mem hbj)
        exact h4 _ (rowsW_here V _ _ _)
    · exfalso
      have hn:d=[]:=List.length_eq_zero_iff.1 (by omega)
      subst hn
      rcases List.mem_append.1 hb with hb | hb
      · cases hb
      · unfold aboveD at hb
        rw [above_small (by decide)] at hb
        cases hb
  · rw [List.mem_singleton.1 hb]
    exact .inl rfl
theorem subP_deep_le {n:List UInt8} {ps:List PN} {j:Nat} (h:∀ p ∈ ps,p.1.length + j≤5):∀ p ∈ subP n ps,p.1.length + (j + 1)≤5:=fun p hp=>by
  obtain ⟨k,q,h1,h2⟩:=subP_mem hp
  have:=h _ h2
  rw [h1]
  simp only [List.length_cons] at this ⊢
  omega
theorem down_file {V:VW} {d:List UInt8} (hV:HasF V 1 d) (hd:d.length≤4096) {m:Nat} {y:List UInt8} (h:Down V (idF 1 d) m y):m=0∧y=idF 1 d:=by
  have hi:=inodeV_F hV (.inl rfl) hd
  cases h with
  | refl=>exact ⟨rfl,rfl⟩
  | step a b c e=>rw [hi] at b; exact absurd rfl b
theorem down_T {V:VW}:∀ (m:Nat) (T:HT) (ps:List PN) (j:Nat) (y:List UInt8),Rel T ps→PsGood ps→HasT V T→(∀ p ∈ ps,p.1.length + j≤5)→Down V (idT T) m y→(∃ T2 ps2,y=idT T2∧Rel T2 ps2∧PsGood ps2∧HasT V T2∧∀ p ∈ ps2,p.1.length + (j + m)≤5)∨∃ d:List UInt8,y=idF 1 d∧HasF V 1 d∧d.length≤1000
  | 0,T,ps,j,y,hr,hp,hV,hj,h=>by
    cases h
    exact .inl ⟨T,ps,rfl,hr,hp,hV,hj⟩
  | m + 1,.mk g gd gf dirs files,ps,j,y,hr,hp,hV,hj,h=>by
    cases h with
    | step a b c e =>
      rw [inodeV_T hr hp hV] at c
      dsimp only at c
      rw [dirV_T hr hp hV] at c
      rcases (esT_mem (g:=g) (gd:=gd) (gf:=gf)).1 c with ⟨x,hx,rfl⟩ | ⟨x,hx,rfl⟩
      · have hd:x.2.2.length≤1000:=hp.short _ (rel_file hr hx)
        obtain ⟨_,h2⟩:=down_file (hV.file hx) (by omega) e
        exact .inr ⟨x.2.2,h2,hV.file hx,hd⟩
      · have:=down_T m x.2 _ (j + 1) y (rel_sub hr hx).1 (hp.sub x.1) (hV.sub hx) (subP_deep_le hj) e
        rw [show j + (m + 1)=j + 1 + m by omega]
        exact this
theorem fine_T {V:VW} {T:HT} {ps:List PN} (hr:Rel T ps) (hp:PsGood ps) (hV:HasT V T) (hj:∀ p ∈ ps,p.1.length≤5):∀ m y,Down V (idT T) m y→FineAt V y (0 + m):=by
  intro m y h
  rcases down_T m T ps 0 y hr hp hV hj h with ⟨T2,ps2,rfl,hr2,hp2,hV2,hj2⟩ | ⟨d,rfl,hV2,hd⟩
  · match T2,hr2,hp2,hV2,hj2 with
    | .mk g gd gf dirs files,hr2,hp2,hV2,hj2 =>
      have hi:=inodeV_T hr2 hp2 hV2
      have hd:=dirV_T hr2 hp2 hV2
      refine ⟨by rw [hi],by rw [hi]; exact bodyW_F hV2.self (esT_len hr2 hp2),fun _=>?_⟩
      rw [hi]
      dsimp only
      rw [hd]
      refine ⟨rfl,fun hc=>?_⟩
      obtain ⟨e,he⟩:=List.exists_mem_of_length_pos hc.1
      rcases (esT_mem (g:=g) (gd:=gd) (gf:=gf)).1 he with ⟨x,hx,rfl⟩ | ⟨x,hx,rfl⟩
      · have:=hj2 _ (rel_file hr2 hx)
        simp only [List.length_cons,List.length_nil] at this
        omega
      · obtain ⟨_,k,q,d,hm⟩:=rel_sub hr2 hx
        have:=hj2 _ hm
        simp only [List.length_cons] at this
        omega
  · have hi:=inodeV_F hV2 (.inl rfl) (by omega)
    refine ⟨by rw [hi],by rw [hi]; exact bodyW_F hV2 (by omega),fun hc=>absurd (by rw [hi]; rfl) hc⟩
theorem und_F {V:VW} {kind:Int} {d:List UInt8} (hV:HasF V kind d) (hk:kind=1∨kind=2) (hd:d.length≤4096):∀ b ∈ blocksF kind d,Und V (idF kind d) (sha b):=fun b hb=>by
  have hi:=inodeV_F hV hk hd
  exact ⟨0,_,.refl _,by rw [hi],by rw [hi]; exact bodyW_F hV hd,by rw [hi]; exact bodyW_all hV hd b hb⟩
theorem und_up {V:VW} {x z:List UInt8} {e:Ent} (h1:(inodeV V x).2=0) (h2:(inodeV V x).1.1≠1) (he:e ∈ (dirV V (inodeV V x).1).1) (h:Und V e.2 z):Und V x z:=by
  obtain ⟨m,y,h3,h4⟩:=h
  exact ⟨m + 1,y,.step h1 h2 he h3,h4⟩
theorem und_T {V:VW}:∀ (k:Nat) (T:HT) (ps:List PN),(∀ p ∈ ps,p.1.length≤k)→Rel T ps→PsGood ps→HasT V T→∀ b ∈ blocksT T,Und V (idT T) (sha b)
  | k,.mk g gd gf dirs files,ps,hk,hr,hp,hV,b,hb=>by
    have hi:=inodeV_T hr hp hV
    have hd:=dirV_T hr hp hV
    have hup:∀ e ∈ esT (.mk g gd gf dirs files),Und V e.2 (sha b)→Und V (idT (.mk g gd gf dirs files)) (sha b):=fun e he hu=>und_up (by rw [hi]) (by rw [hi]; show (2:Int)≠1; decide) (by rw [hi]; dsimp only; rw [hd]; exact he) hu
    rw [blocksT] at hb
    rcases List.mem_append.1 hb with hb | hb
    · rcases List.mem_append.1 hb with hb | hb
      · unfold fileBs at hb
        obtain ⟨l,hl,hbl⟩:=List.mem_flatten.1 hb
        obtain ⟨x,hx,rfl⟩:=List.mem_map.1 hl
        have hxd:x.2.2.length≤1000:=hp.short _ (rel_file hr hx)
        exact hup (x.1,idF 1 x.2.2) (esT_mem.2 (.inl ⟨x,hx,rfl⟩)) (und_F (hV.file hx) (.inl rfl) (by omega) b hbl)
      · rw [blocksDs_map] at hb
        obtain ⟨l,hl,hbl⟩:=List.mem_flatten.1 hb
        obtain ⟨x,hx,rfl⟩:=List.mem_map.1 hl
        obtain ⟨hrx,n1,q,d,hm⟩:=rel_sub hr hx
        match k,hk with
        | 0,hk =>
          have:=hk _ hm
          simp at this
        | k + 1,hk =>
          refine hup (x.1,idT x.2) (esT_mem.2 (.inr ⟨x,hx,rfl⟩)) (und_T k x.2 _ (fun p hp2=>?_) hrx (hp.sub x.1) (hV.sub hx) b hbl)
          obtain ⟨k2,q2,h1,h2⟩:=subP_mem hp2
          have:=hk _ h2
          rw [h1]
          simp only [List.length_cons] at this ⊢
          omega
    · have:=und_F hV.self (.inr rfl) (esT_len hr hp) b hb
      rw [idT_es]
      exact this
theorem built_sound {xs:List F3} {T:HT} {l:List TB} {es:List EB} (hb:buildE xs=0) (hw:Whole3 xs T (viewT l)) (ht:TreeOf (blocksT T) l) (he:es.map toTB=l):SoundV (viewT l) es (idT T):=by
  have hi:=inodeV_T hw.rel hw.good hw.has
  have h5:∀ p ∈ partsN xs,p.1.length≤5:=fun p hp=>((parts_ok hb).2 p hp).2
  have hok:(nodeW (viewT l) 6 (idT T) 0 []).2.2=true:=nodeW_fine _ 6 _ 0 [] (by decide) rfl (fine_T hw.rel hw.good hw.has h5)
  have hg:=(nodeW_gone (viewT l) 6 (idT T) 0 [] [] rfl (fun P hP=>absurd hP (by simp)) hok).1
  have hin:∀ z,Und (viewT l) (idT T) z→z ∈ (nodeW (viewT l) 6 (idT T) 0 []).2.1:=fun z ⟨m,y,h1,h2,h3,h4⟩=>by
    have h6:=hg m y h1
    rcases h4 with rfl | h4
    · exact h6.2.1
    · exact h6.2.2 z h4
  have hkeys:∀ p ∈ l,p.1 ∈ (nodeW (viewT l) 6 (idT T) 0 []).2.1:=fun p hp=>by
    obtain ⟨h1,h2,_⟩:=ht.from_ p hp
    rw [h1]
    exact hin _ (und_T 5 T _ h5 hw.rel hw.good hw.has _ h2)
  have hnd:(l.map (·.1)).Nodup:=by
    refine List.Pairwise.map _ (fun a b hab=>?_) ht.sorted
    intro hc
    rw [hc,ltK_irrefl] at hab
    cases hab
  refine ⟨by rw [hi],by rw [hi]; rfl,hok,?_,fun j hj b hbj=>?_⟩
  · have:=nub_same (b:=(nodeW (viewT l) 6 (idT T) 0 []).2.1) hnd fun k=>⟨fun h=>?_,fun h=>?_⟩
    · rw [← this,List.length_map,← he,List.length_map]
    · obtain ⟨p,hp,rfl⟩:=List.mem_map.1 h
      exact hkeys p hp
    · obtain ⟨b,hbv⟩:=und_there (nodeW_under _ 6 _ 0 [] hok k h)
      unfold viewT at hbv
      rw [Option.map_eq_some_iff] at hbv
      obtain ⟨p,hp,_⟩:=hbv
      have h1:=List.mem_of_find?_eq_some hp
      have h2:=List.find?_some hp
      simp only [Bool.and_eq_true,decide_eq_true_eq] at h2
      rw [← h2.1]
      exact List.mem_map_of_mem h1
  · have hbl:toTB b ∈ l:=by rw [← he]; exact List.mem_map_of_mem (List.mem_of_getElem? hbj)
    have h0:=(ht.from_ _ hbl).2.2
    refine ⟨hkeys _ hbl,?_,?_,fun a h1 ha=>?_⟩
    · have:=congrArg (fun q:Int × Int=>q.1) h0
      exact this
    · have:=congrArg (fun q:Int × Int=>q.2) h0
      exact this
    · have hs:=ht.sorted
      rw [← he] at hs
      have hs2:=List.pairwise_iff_getElem.1 hs (j - 1) j (by rw [List.length_map]; omega) (by rw [List.length_map]; exact hj) (by omega)
      rw [List.getElem_map,List.getElem_map] at hs2
      obtain ⟨_,e1⟩:=List.getElem?_eq_some_iff.1 ha
      obtain ⟨_,e2⟩:=List.getElem?_eq_some_iff.1 hbj
      rw [e1,e2] at hs2
      exact hs2
open Go.RowKit
theorem hasF_part {V:VW}:∀ {p:List (List UInt8)} {d:List UInt8} {T:HT} {ps:List PN},(p,d) ∈ ps→Rel T ps→HasT V T→HasF V 1 d
  | [],d,.mk g gd gf dirs files,ps,hm,hr,hV=>absurd rfl ((Rel_mk.1 hr).1 _ hm)
  | [n],d,.mk g gd gf dirs files,ps,hm,hr,hV=>by
    have h2:=(Rel_mk.1 hr).2.1
    have hm2:(([n],d):PN) ∈ ps.filter oneP:=List.mem_filter.2 ⟨hm,rfl⟩
    rw [← h2] at hm2
    obtain ⟨x,hx,he⟩:=List.mem_map.1 hm2
    have h3:x.2.2=d:=congrArg (fun q:PN=>q.2) he
    rw [← h3]
    exact hV.file hx
  | n::k::q,d,.mk g gd gf dirs files,ps,hm,hr,hV=>by
    have h3:=(Rel_mk.1 hr).2.2.1
    have hin:=(h3 n).1 (fun h=>by have:=mem_subP hm; rw [h] at this; cases this)
    cases hdd:lookA n dirs with
    | none=>exact absurd hin (lookA_none.1 hdd)
    | some t=>exact hasF_part (mem_subP hm) (rel_sub hr (lookA_mem hdd)).1 (hV.sub (lookA_mem hdd))
theorem jn_short {c:Nat}:∀ {ls:List (List UInt8)},(∀ n ∈ ls,n.length + 1≤c)→(jn ls).length≤ls.length * c
  | [],_=>by simp [jn]
  | n::r,h=>by
    have e:jn (n::r)=47::(n++jn r):=by simp [jn]
    have h1:=h n (by simp)
    have h2:=jn_short (ls:=r) fun m hm=>h m (by simp [hm])
    rw [e,List.length_cons,List.length_append,List.length_cons,Nat.add_mul]
    omega
section
variable {xs:List F3} {T:HT} {V:VW} (hw:Whole3 xs T V) (hb:buildE xs=0) (hs:Short3 xs) {x:F3} (hx:x ∈ xs)
include hw hb hs hx
theorem file_short:x.2.2.length≤1000:=(wrongI_zero ((buildE_wrong hb).2 x hx)).2.2
theorem file_has:HasF V 1 x.2.2:=hasF_part (part_mem hw hb hs hx) hw.rel hw.has
theorem read_part (a m:Nat):readV V (idT T) x.1 (a:Int) (m:Int)=((x.2.2.take (a + m)).drop a,0):=by
  obtain ⟨_,h2⟩:=path_file hw hb hs hx
  have hd:=file_short hw hb hs hx
  unfold readV
  rw [h2,if_neg (fun h=>h rfl),if_neg (by show ¬ ¬ (1:Int)=1; decide),if_neg (by omega)]
  dsimp only
  by_cases ha:x.2.2.length≤a
  · rw [if_pos (by show (x.2.2.length:Int)≤_; omega),List.drop_of_length_le (by rw [List.length_take]; omega)]
  · rw [if_neg (by show ¬ (x.2.2.length:Int)≤_; omega)]
    have e:(ndF 1 x.2.2).2.1.toNat=x.2.2.length:=Int.toNat_natCast _
    rw [e,Int.toNat_natCast,Int.toNat_natCast,bytesV_F (file_has hw hb hs hx) (by omega) (by omega)]
    dsimp only
    by_cases hm:m≤x.2.2.length - a
    · rw [Nat.min_eq_left hm]; rfl
    · rw [List.take_of_length_le (l:=x.2.2) (i:=a + min m (x.2.2.length - a)) (by omega),List.take_of_length_le (l:=x.2.2) (i:=a + m) (by omega)]; rfl
theorem read_whole:readV V (idT T) x.1 0 1099511627776=(x.2.2,0):=by
  have hd:=file_short hw hb hs hx
  have:=read_part hw hb hs hx 0 1099511627776
  rw [List.drop_zero,List.take_of_length_le (by omega)] at this
  exact this
theorem list_up:∃ l:List (List UInt8),listV V (idT T) (joinN (pathOf x).dropLast).1=(l,0)∧(pathOf x).getD ((pathOf x).length - 1) [] ∈ l∧l.length≤1000∧(joinN (pathOf x).dropLast).1.length≤900∧0 < (pathOf x).length∧(pathOf x).length≤200:=by
  obtain ⟨h3,h4,_⟩:=wrongI_zero ((buildE_wrong hb).2 x hx)
  obtain ⟨ls,a1,a2,a3,a4,a5⟩:=pathOk_split (hs x hx).2.2 h3
  have hp:pathOf x=ls:=a4
  rw [hp]
  have hlen:ls.length≤5:=by
    unfold allN at a5
    split at a5
    · cases a5
    · omega
  have hsplit:ls.dropLast++[ls.getLast a1]=ls:=List.dropLast_concat_getLast a1
  have hlast:ls.getD (ls.length - 1) []=ls.getLast a1:=by
    have h0:0 < ls.length:=List.length_pos_iff.2 a1
    rw [List.getD_eq_getElem?_getD,List.getElem?_eq_getElem (by omega),List.getLast_eq_getElem]
    rfl
  have hm:=part_mem hw hb hs hx
  rw [hp,← hsplit] at hm
  obtain ⟨T2,ps2,b1,b2,b3,b4,b5⟩:=findT_up ls.dropLast (ls.getLast a1) x.2.2 T _ hw.rel hm
  have hsub:∀ n ∈ ls.dropLast,n ∈ ls:=fun n hn=>List.dropLast_subset ls hn
  have hall:allN ls.dropLast=0:=by
    unfold allN at a5 ⊢
    rw [if_neg (by omega)] at a5
    rw [if_neg (by rw [List.length_dropLast]; omega)]
    exact firstBad_all fun n hn=>firstBad_zero a5 n (hsub n hn)
  have hj:joinN ls.dropLast=(47::joinL ls.dropLast,0):=by unfold joinN; rw [if_neg (fun h=>h hall)]
  have hspl:splitN (joinN ls.dropLast).1=(ls.dropLast,0):=by
    rw [hj]
    by_cases hn:ls.dropLast=[]
    · rw [hn]; decide
    · have:=split_join hn fun n hn=>⟨(a2 n (hsub n hn)).2.1,(a2 n (hsub n hn)).2.2⟩
      rw [if_neg (fun h=>h hall)] at this
      exact this
  have hpath:pathV V (idT T) (joinN ls.dropLast).1=(ndF 2 (dirR (esT T2)),0):=by
    rw [pathV_T hw.rel hw.good hw.has,hspl,if_neg (fun h=>h rfl)]
    exact b2
  have hdir:=dirV_T b1 (b4 hw.good) (b5 V hw.has)
  have h20:=dirV20 V (ndF 2 (dirR (esT T2)))
  rw [hdir] at h20
  refine ⟨nms (esT T2),?_,by rw [hlast]; exact b3,by rw [nms_length]; show (esT T2).length≤1000; exact Nat.le_trans h20 (by decide),?_,List.length_pos_iff.2 a1,by omega⟩
  · unfold listV
    rw [hpath,if_neg (fun h=>h rfl),hdir,if_neg (fun h=>h rfl)]
  · rw [hj]
    show (joinL ls.dropLast).length + 1≤900
    by_cases hn:ls.dropLast=[]
    · rw [hn]; decide
    · have e:(jn ls.dropLast).length=(joinL ls.dropLast).length + 1:=by rw [jn_join hn]; rfl
      rw [← e]
      have:=jn_short (ls:=ls.dropLast) (c:=3) fun n hn=>by have:=(a2 n (hsub n hn)).1; omega
      rw [List.length_dropLast] at this
      omega
end
open Go.RowKit
set_option maxRecDepth 8000
theorem keep3 {k:List UInt8} {ks:List (List UInt8)} {s e:Int} (h:(decide (((cntK k ks:Nat):Int)=0) || !decide (s=0) || !decide (e=0))=false):k ∈ ks∧s=0∧e=0:=by
  simp only [Bool.or_eq_false_iff,Bool.not_eq_false',decide_eq_true_eq,decide_eq_false_iff_not] at h
  obtain ⟨⟨h1,h2⟩,h3⟩:=h
  exact ⟨Classical.byContradiction fun hc=>h1 (by rw [(cntK_zero k ks).2 hc]; rfl),h2,h3⟩
set_option maxHeartbeats 2000000 in
theorem sound_spec (es:List EB) (v:Value) (id:List UInt8) (hid:id.length=32) (hel:es.length≤1000000000000) (hdl:∀ b ∈ es,b.2.length≤1000000000) (F:HP) (hF:∀ h,F h→rdP 35 v (es.map (·.1)).length (recC bvC (es.map (·.1))) h) (hD:∀ h,F h→datE es h) (hT:∀ h,F h→tabsP h):CallsS Tryz.prog 32 #[.agg (treeC v id).toArray] F [] (fun r Ps=>∃ q:Bool,r = .bool q∧(q=true ↔ SoundV (viewT (es.map toTB)) es id)∧Ps=[]):=by
 have hml:(es.map (·.1)).length=es.length:=List.length_map _
 refine callsS_enter Tryz.func32 rfl Tryz.ntmps32 (by simp) (fun E=>?_)
 refine Q9 (R9 (Lc9 rfl rfl (by decide) (OpT_box (r:=101) rfl rfl rfl (fun g101=>(G9 rfl rfl (N9 (X9 (Q9 (R9 (L9 rfl (Px9 (r:=101) rfl Tryz.isAgg31 Tryz.sizeOf31 rfl rfl (treeC_length hid) (load_all (treeC_length hid))) (Lc9 rfl rfl (by decide) (Oc9 200 [0,101] [] rfl Tryz.call43 rfl rfl rfl (by decide) (by decide) (look_spec es v id hel hdl _ (rs9 0 rfl hF) (ds9 0 rfl hD)) (fun v9 Ps9 hR9=>?_)))))))))))))
 obtain ⟨gm,ls,rfl,rfl,hL0,hvw⟩:=hR9
 skip
 rw [← hvw]
 refine (Lc9 rfl rfl (by decide) (OpT_makeMapQ (r:=350) (enc:=idV) (ok:=ok32) rfl (fun gmm=>?_)))
 skip
 refine (Lc9 rfl rfl (by decide) (OpT_makeMapQ (r:=351) (enc:=encP) (ok:=okP) rfl (fun gww=>?_)))
 skip
 refine (L9 rfl (Pu_build (V:=.agg #[.map (some gm),.map (some gmm),.map (some gww)]) [(0,1),(1,1),(2,1)] ([.map none,.map none,.map none]) rfl rfl (by kernel_rfl) (by kernel_rfl) (.one rfl rfl (by simp) rfl (.one rfl rfl (by simp) rfl (.one rfl rfl (by simp) rfl (.nil _)))) rfl) (Lc9 rfl rfl (by decide) (OpT_box (r:=361) rfl rfl rfl (fun g361=>(G9 rfl rfl (N9 (X9 ?_)))))))
 refine W_cut (α:=Nat) (fun z=>[(1,.pointer (some ⟨g101,0,none⟩)),(3,.pointer (some ⟨g361,0,none⟩)),(4,.pointer (some ⟨z,0,none⟩)),(5,.int .i64 (inodeV (vw ls) id).2)]) (fun z=>[(0,F),(101,blk g101 31 (treeC v id)),(361,blk g361 127 [.map (some gm),.map (some gmm),.map (some gww)]),(200,mapQ idV ok32 gm (entsL ls) none),(350,metP gmm []),(351,wasP gww []),(370,blk z 42 (ndC (inodeV (vw ls) id).1))]) (fun z=>True) ?_ (fun z _hz=>?_)
 ·
  refine Wt9 (P':=metP gmm []) 350 rfl (fun h hp=>⟨[],MetOk.nil,hp⟩) ?_
  refine Wt9 (P':=wasP gww []) 351 rfl (fun h hp=>⟨[],fun q=>rfl,hp⟩) ?_
  refine W_draw (N:=13) (by kernel_rfl) rfl [(0,_),(101,_),(361,_)] ⟨rfl,rfl,rfl,trivial⟩ ?_
  refine (T9 0 rfl rfl (Pm9 rfl rfl) (T9 1 rfl rfl (Pu_nilCheck rfl rfl) (T9 2 rfl rfl (F9 0 rfl rfl) (T9 3 rfl rfl (Pb9 (r:=361) rfl Tryz.isAgg93 rfl rfl rfl) (T9 4 rfl rfl (F9 1 rfl rfl) (T9 5 rfl rfl (Px9 (r:=101) rfl Tryz.isAgg29 Tryz.sizeOf29 rfl rfl ((bs_length _).trans hid) (tree_id hid)) (Y9 [6,10] ?_)))))))
  refine Z9 rfl rfl (Oc9 400 [0,101,200,350,351,361] [] rfl Tryz.call58 rfl rfl rfl (by decide) (by decide) (view_inode gm ls _ (mapQ_star 2 rfl (fun _ h=>h)) (fun p0 hp0=>rs9 0 rfl (look_rd hD hL0 p0 hp0)) id hid) (fun v21 Ps21 hR21=>?_)) ?_
  ·
   obtain ⟨rfl,rfl⟩:=hR21
   refine ⟨⟨rfl,rfl,rfl,trivial⟩,?_⟩
   refine (T9 7 rfl rfl (Pm9 rfl rfl) (T9 8 rfl rfl (Pe9 rfl rfl rfl) (T9 9 rfl rfl (Pe9 rfl rfl rfl) (Y9 [10] ?_))))
   refine Z9 rfl rfl (OpT_alloc (r:=401) (cs:=(nodeC 0 0 0 zeroId)) rfl (zero_run (by kernel_rfl:(Tryz.prog.info? 42).bind (·.zero)=some (.agg (nodeC 0 0 0 zeroId).toArray))) rfl (fun g401=>⟨⟨rfl,rfl,rfl,trivial⟩,?_⟩)) ?_
   ·
    refine (Y9 [11] ?_)
    refine Ac09 rfl rfl rfl (OpT_storeAll (r:=401) rfl Tryz.sizeOf42 rfl rfl rfl (nodeC_length zeroId_length) (ndC_length (inodeV_top _ _)) (one_node _ _ _ _) ?_) ?_
    ·
     refine ⟨⟨rfl,rfl,rfl,trivial⟩,?_⟩
     refine (T9 12 rfl rfl (Pg9 rfl rfl) (Ad9 (by kernel_rfl) ?_))
     refine X_ren 401 370 rfl ?_
     exact X_cut g401 trivial (a9 rfl) (a9 rfl)
    exact An9
   exact An9
  refine Z9 rfl rfl (OpT_alloc (r:=362) (cs:=(nodeC 0 0 0 zeroId)) rfl (zero_run (by kernel_rfl:(Tryz.prog.info? 42).bind (·.zero)=some (.agg (nodeC 0 0 0 zeroId).toArray))) rfl (fun g362=>⟨⟨rfl,rfl,rfl,trivial⟩,?_⟩)) ?_
  ·
   refine (Y9 [6] ?_)
   refine Z9 rfl rfl (Oc9 400 [0,101,200,350,351,361,362] [] rfl Tryz.call58 rfl rfl rfl (by decide) (by decide) (view_inode gm ls _ (mapQ_star 2 rfl (fun _ h=>h)) (fun p0 hp0=>rs9 0 rfl (look_rd hD hL0 p0 hp0)) id hid) (fun v21 Ps21 hR21=>?_)) ?_
   ·
    obtain ⟨rfl,rfl⟩:=hR21
    refine ⟨⟨rfl,rfl,rfl,trivial⟩,?_⟩
    refine (T9 7 rfl rfl (Pm9 rfl rfl) (T9 8 rfl rfl (Pe9 rfl rfl rfl) (T9 9 rfl rfl (Pe9 rfl rfl rfl) (Y9 [11] ?_))))
    refine Ac09 rfl rfl rfl (OpT_storeAll (r:=362) rfl Tryz.sizeOf42 rfl rfl rfl (nodeC_length zeroId_length) (ndC_length (inodeV_top _ _)) (one_node _ _ _ _) ?_) ?_
    ·
     refine ⟨⟨rfl,rfl,rfl,trivial⟩,?_⟩
     refine (T9 12 rfl rfl (Pg9 rfl rfl) (Ad9 (by kernel_rfl) ?_))
     refine X_ren 362 370 rfl ?_
     exact X_cut g362 trivial (a9 rfl) (a9 rfl)
    exact An9
   exact An9
  exact An9
 ·
  refine Q9 (Q9 ?_)
  rcases Bool.eq_false_or_eq_true ((!decide ((inodeV (vw ls) id).2=0) || !decide ((inodeV (vw ls) id).1.1=2))) with hsp3 | hsp3
  ·
   have hno:¬ SoundV (vw ls) es id:=fun hc=>by rw [hc.ino,hc.dir] at hsp3; cases hsp3
   refine W_draw (N:=26) (by kernel_rfl) rfl [(0,_),(101,_),(361,_),(370,_)] ⟨rfl,rfl,rfl,rfl,trivial⟩ ?_
   refine (T9 0 rfl rfl (Pm9 rfl rfl) (T9 1 rfl rfl (Pn9 rfl rfl rfl (run_neq _ _ _ _ _ _)) (T9 2 rfl rfl (Pm9 rfl rfl) (AH_takeG 3 rfl (by kernel_rfl) (by kernel_rfl) (by kernel_rfl) rfl rfl rfl rfl (by decide) (fun hb=>(F9 0 rfl rfl)) (AH_takeG 4 rfl (by kernel_rfl) (by kernel_rfl) (by kernel_rfl) rfl rfl rfl rfl (by decide) (fun hb=>(Pb9 (r:=370) rfl Tryz.isAgg3 (ev_gv rfl hb) rfl rfl)) (AH_takeG 5 rfl (by kernel_rfl) (by kernel_rfl) (by kernel_rfl) rfl rfl rfl rfl (by decide) (fun hb=>(Pn9 rfl (ev_gv rfl hb) rfl (run_neq _ _ _ _ _ _))) (T9 6 rfl rfl (Pu_or rfl rfl rfl) (T9 7 rfl rfl (Pm9 rfl rfl) (AH_takeF 8 rfl (by kernel_rfl) (by kernel_rfl) (by kernel_rfl) rfl rfl rfl (by rw [hsp3]; rfl) rfl (by decide) (AH_takeF 9 rfl (by kernel_rfl) (by kernel_rfl) (by kernel_rfl) rfl rfl rfl (by rw [hsp3]; rfl) rfl (by decide) (AH_takeF 10 rfl (by kernel_rfl) (by kernel_rfl) (by kernel_rfl) rfl rfl rfl (by rw [hsp3]; rfl) rfl (by decide) (AH_takeF 11 rfl (by kernel_rfl) (by kernel_rfl) (by kernel_rfl) rfl rfl rfl (by rw [hsp3]; rfl) rfl (by decide) (Y9 [12] ?_)))))))))))))
   refine AHs_gF rfl rfl rfl rfl (by rw [hsp3]; rfl) rfl (by decide) ?_ ?_
   ·
    refine (AH_takeF 13 rfl (by kernel_rfl) (by kernel_rfl) (by kernel_rfl) rfl rfl rfl (by rw [hsp3]; rfl) rfl (by decide) (T9 14 rfl rfl (Pu_pickT rfl rfl hsp3 rfl) (T9 15 rfl rfl (Pm9 rfl rfl) (AH_takeF 16 rfl (by kernel_rfl) (by kernel_rfl) (by kernel_rfl) rfl rfl rfl rfl rfl (by decide) (AH_takeF 17 rfl (by kernel_rfl) (by kernel_rfl) (by kernel_rfl) rfl rfl rfl rfl rfl (by decide) (AH_takeF 18 rfl (by kernel_rfl) (by kernel_rfl) (by kernel_rfl) rfl rfl rfl rfl rfl (by decide) (AH_takeF 19 rfl (by kernel_rfl) (by kernel_rfl) (by kernel_rfl) rfl rfl rfl rfl rfl (by decide) (AH_takeF 21 rfl (by kernel_rfl) (by kernel_rfl) (by kernel_rfl) rfl rfl rfl rfl rfl (by decide) (AH_takeF 22 rfl (by kernel_rfl) (by kernel_rfl) (by kernel_rfl) rfl rfl rfl rfl rfl (by decide) (AH_takeF 23 rfl (by kernel_rfl) (by kernel_rfl) (by kernel_rfl) rfl rfl rfl rfl rfl (by decide) (Y9 [20] ?_)))))))))))
    refine AHs_gF rfl rfl rfl rfl rfl rfl (by decide) ?_ ?_
    ·
     refine (AH_takeF 24 rfl (by kernel_rfl) (by kernel_rfl) (by kernel_rfl) rfl rfl rfl rfl rfl (by decide) (T9 25 rfl rfl (Pu_pickT rfl rfl rfl rfl) (Ad9 (by kernel_rfl) (X9 ?_))))
     refine W_true rfl (rfl) ?_
     refine Q9 (R9 (G9 rfl rfl (N9 (X9 ?_))))
     refine W_ret (X_then_ret ?_)
     exact Xq9 [] (Ps:=[]) (res1 Tryz.results32 rfl) rfl (by decide) ⟨_,rfl,⟨fun h=>(by cases h),fun h=>absurd h hno⟩,rfl⟩
    exact An9
   exact An9
  ·
   have h12:(inodeV (vw ls) id).2=0∧(inodeV (vw ls) id).1.1=2:=by simpa using hsp3
   rcases Bool.eq_false_or_eq_true (!(nodeW (vw ls) 6 id 0 []).2.2) with hsq3 | hsq3
   ·
    have hno:¬ SoundV (vw ls) es id:=fun hc=>by rw [hc.ok] at hsq3; cases hsq3
    refine W_draw (N:=26) (by kernel_rfl) rfl [(0,_),(101,_),(361,_),(370,_)] ⟨rfl,rfl,rfl,rfl,trivial⟩ ?_
    refine (T9 0 rfl rfl (Pm9 rfl rfl) (T9 1 rfl rfl (Pn9 rfl rfl rfl (run_neq _ _ _ _ _ _)) (T9 2 rfl rfl (Pm9 rfl rfl) (AH_takeG 3 rfl (by kernel_rfl) (by kernel_rfl) (by kernel_rfl) rfl rfl rfl rfl (by decide) (fun hb=>(F9 0 rfl rfl)) (AH_takeG 4 rfl (by kernel_rfl) (by kernel_rfl) (by kernel_rfl) rfl rfl rfl rfl (by decide) (fun hb=>(Pb9 (r:=370) rfl Tryz.isAgg3 (ev_gv rfl hb) rfl rfl)) (AH_takeG 5 rfl (by kernel_rfl) (by kernel_rfl) (by kernel_rfl) rfl rfl rfl rfl (by decide) (fun hb=>(Pn9 rfl (ev_gv rfl hb) rfl (run_neq _ _ _ _ _ _))) (T9 6 rfl rfl (Pu_or rfl rfl rfl) (T9 7 rfl rfl (Pm9 rfl rfl) (AH_takeT 8 rfl (by kernel_rfl) (by kernel_rfl) (by kernel_rfl) rfl rfl rfl (by rw [hsp3]; rfl) rfl (by decide) (Pm9 rfl rfl) (AH_takeT 9 rfl (by kernel_rfl) (by kernel_rfl) (by kernel_rfl) rfl rfl rfl (by rw [hsp3]; rfl) rfl (by decide) (F9 1 rfl rfl) (AH_takeT 10 rfl (by kernel_rfl) (by kernel_rfl) (by kernel_rfl) rfl rfl rfl (by rw [hsp3]; rfl) rfl (by decide) (Px9 (r:=101) rfl Tryz.isAgg29 Tryz.sizeOf29 rfl rfl ((bs_length _).trans hid) (tree_id hid)) (AH_takeT 11 rfl (by kernel_rfl) (by kernel_rfl) (by kernel_rfl) rfl rfl rfl (by rw [hsp3]; rfl) rfl (by decide) (Pu_build (V:=.agg (plC (id,(0:Int))).toArray) [(0,32),(32,1)] (plC (zeroId,0)) rfl rfl (by kernel_rfl) (by kernel_rfl) (.many rfl ((bs_length _).trans hid) (by rw [plC_length (show okP (zeroId,0) from zeroId_length)]; decide) rfl (.one rfl rfl (by rw [pl_over hid]; decide) rfl (.nil _))) (by rw [pl_build hid])) (Y9 [12] ?_)))))))))))))
    refine AHs_gT rfl rfl rfl rfl (by rw [hsp3]; rfl) rfl (by decide) (Oc9 400 [0,101,200,361,370] [350,351] rfl Tryz.call59 rfl rfl rfl (by decide) (by decide) (node_spec g361 gm gmm gww ls 6 (by decide) id hid 0 rfl [] [] (by have:=(node_small (vw ls) id).1; simpa using this) (node_small (vw ls) id).2 _ (cell_up1 3 rfl (fun h hb=>by rw [blk_cell hb]; rfl)) (cell_up1 3 rfl (fun h hb=>by rw [blk_cell hb]; rfl)) (cell_up1 3 rfl (fun h hb=>by rw [blk_cell hb]; rfl)) (mapQ_star 2 rfl (fun _ h=>h)) (fun p0 hp0=>rs9 0 rfl (look_rd hD hL0 p0 hp0)) (ts9 0 rfl hT)) (fun v36 Ps36 hR36=>?_)) ?_
    ·
     obtain ⟨rfl,rfl⟩:=hR36
     refine ⟨⟨rfl,rfl,rfl,rfl,trivial⟩,?_⟩
     rw [List.nil_append]
     refine (AH_takeT 13 rfl (by kernel_rfl) (by kernel_rfl) (by kernel_rfl) rfl rfl rfl (by rw [hsp3]; rfl) rfl (by decide) (Pu_un rfl rfl (run_not _)) (T9 14 rfl rfl (Pu_pickF rfl rfl hsp3 rfl) (T9 15 rfl rfl (Pm9 rfl rfl) (AH_takeF 16 rfl (by kernel_rfl) (by kernel_rfl) (by kernel_rfl) rfl rfl rfl (by rw [hsq3]; rfl) rfl (by decide) (AH_takeF 17 rfl (by kernel_rfl) (by kernel_rfl) (by kernel_rfl) rfl rfl rfl (by rw [hsq3]; rfl) rfl (by decide) (AH_takeF 18 rfl (by kernel_rfl) (by kernel_rfl) (by kernel_rfl) rfl rfl rfl (by rw [hsq3]; rfl) rfl (by decide) (AH_takeF 19 rfl (by kernel_rfl) (by kernel_rfl) (by kernel_rfl) rfl rfl rfl (by rw [hsq3]; rfl) rfl (by decide) (AH_takeF 21 rfl (by kernel_rfl) (by kernel_rfl) (by kernel_rfl) rfl rfl rfl (by rw [hsq3]; rfl) rfl (by decide) (AH_takeF 22 rfl (by kernel_rfl) (by kernel_rfl) (by kernel_rfl) rfl rfl rfl (by rw [hsq3]; rfl) rfl (by decide) (AH_takeF 23 rfl (by kernel_rfl) (by kernel_rfl) (by kernel_rfl) rfl rfl rfl (by rw [hsq3]; rfl) rfl (by decide) (Y9 [20] ?_)))))))))))
     refine AHs_gF rfl rfl rfl rfl (by rw [hsq3]; rfl) rfl (by decide) ?_ ?_
     ·
      refine (AH_takeF 24 rfl (by kernel_rfl) (by kernel_rfl) (by kernel_rfl) rfl rfl rfl (by rw [hsq3]; rfl) rfl (by decide) (T9 25 rfl rfl (Pu_pickT rfl rfl hsq3 rfl) (Ad9 (by kernel_rfl) (X9 ?_))))
      refine W_true rfl (rfl) ?_
      refine Q9 (R9 (G9 rfl rfl (N9 (X9 ?_))))
      refine W_ret (X_then_ret ?_)
      exact Xq9 [] (Ps:=[]) (res1 Tryz.results32 rfl) rfl (by decide) ⟨_,rfl,⟨fun h=>(by cases h),fun h=>absurd h hno⟩,rfl⟩
     exact An9
    exact An9
   ·
    have hok:(nodeW (vw ls) 6 id 0 []).2.2=true:=by simpa using hsq3
    refine W_draw (N:=26) (by kernel_rfl) rfl [(0,_),(101,_),(361,_),(370,_)] ⟨rfl,rfl,rfl,rfl,trivial⟩ ?_
    refine (T9 0 rfl rfl (Pm9 rfl rfl) (T9 1 rfl rfl (Pn9 rfl rfl rfl (run_neq _ _ _ _ _ _)) (T9 2 rfl rfl (Pm9 rfl rfl) (AH_takeG 3 rfl (by kernel_rfl) (by kernel_rfl) (by kernel_rfl) rfl rfl rfl rfl (by decide) (fun hb=>(F9 0 rfl rfl)) (AH_takeG 4 rfl (by kernel_rfl) (by kernel_rfl) (by kernel_rfl) rfl rfl rfl rfl (by decide) (fun hb=>(Pb9 (r:=370) rfl Tryz.isAgg3 (ev_gv rfl hb) rfl rfl)) (AH_takeG 5 rfl (by kernel_rfl) (by kernel_rfl) (by kernel_rfl) rfl rfl rfl rfl (by decide) (fun hb=>(Pn9 rfl (ev_gv rfl hb) rfl (run_neq _ _ _ _ _ _))) (T9 6 rfl rfl (Pu_or rfl rfl rfl) (T9 7 rfl rfl (Pm9 rfl rfl) (AH_takeT 8 rfl (by kernel_rfl) (by kernel_rfl) (by kernel_rfl) rfl rfl rfl (by rw [hsp3]; rfl) rfl (by decide) (Pm9 rfl rfl) (AH_takeT 9 rfl (by kernel_rfl) (by kernel_rfl) (by kernel_rfl) rfl rfl rfl (by rw [hsp3]; rfl) rfl (by decide) (F9 1 rfl rfl) (AH_takeT 10 rfl (by kernel_rfl) (by kernel_rfl) (by kernel_rfl) rfl rfl rfl (by rw [hsp3]; rfl) rfl (by decide) (Px9 (r:=101) rfl Tryz.isAgg29 Tryz.sizeOf29 rfl rfl ((bs_length _).trans hid) (tree_id hid)) (AH_takeT 11 rfl (by kernel_rfl) (by kernel_rfl) (by kernel_rfl) rfl rfl rfl (by rw [hsp3]; rfl) rfl (by decide) (Pu_build (V:=.agg (plC (id,(0:Int))).toArray) [(0,32),(32,1)] (plC (zeroId,0)) rfl rfl (by kernel_rfl) (by kernel_rfl) (.many rfl ((bs_length _).trans hid) (by rw [plC_length (show okP (zeroId,0) from zeroId_length)]; decide) rfl (.one rfl rfl (by rw [pl_over hid]; decide) rfl (.nil _))) (by rw [pl_build hid])) (Y9 [12] ?_)))))))))))))
    refine AHs_gT rfl rfl rfl rfl (by rw [hsp3]; rfl) rfl (by decide) (Oc9 400 [0,101,200,361,370] [350,351] rfl Tryz.call59 rfl rfl rfl (by decide) (by decide) (node_spec g361 gm gmm gww ls 6 (by decide) id hid 0 rfl [] [] (by have:=(node_small (vw ls) id).1; simpa using this) (node_small (vw ls) id).2 _ (cell_up1 3 rfl (fun h hb=>by rw [blk_cell hb]; rfl)) (cell_up1 3 rfl (fun h hb=>by rw [blk_cell hb]; rfl)) (cell_up1 3 rfl (fun h hb=>by rw [blk_cell hb]; rfl)) (mapQ_star 2 rfl (fun _ h=>h)) (fun p0 hp0=>rs9 0 rfl (look_rd hD hL0 p0 hp0)) (ts9 0 rfl hT)) (fun v36 Ps36 hR36=>?_)) ?_
    ·
     obtain ⟨rfl,rfl⟩:=hR36
     refine ⟨⟨rfl,rfl,rfl,rfl,trivial⟩,?_⟩
     rw [List.nil_append]
     refine (AH_takeT 13 rfl (by kernel_rfl) (by kernel_rfl) (by kernel_rfl) rfl rfl rfl (by rw [hsp3]; rfl) rfl (by decide) (Pu_un rfl rfl (run_not _)) (T9 14 rfl rfl (Pu_pickF rfl rfl hsp3 rfl) (T9 15 rfl rfl (Pm9 rfl rfl) (AH_takeT 16 rfl (by kernel_rfl) (by kernel_rfl) (by kernel_rfl) rfl rfl rfl (by rw [hsq3]; rfl) rfl (by decide) (Pm9 rfl rfl) (AH_takeT 17 rfl (by kernel_rfl) (by kernel_rfl) (by kernel_rfl) rfl rfl rfl (by rw [hsq3]; rfl) rfl (by decide) (Pu_nilCheck rfl rfl) (AH_takeT 18 rfl (by kernel_rfl) (by kernel_rfl) (by kernel_rfl) rfl rfl rfl (by rw [hsq3]; rfl) rfl (by decide) (F9 1 rfl rfl) (AH_takeT 19 rfl (by kernel_rfl) (by kernel_rfl) (by kernel_rfl) rfl rfl rfl (by rw [hsq3]; rfl) rfl (by decide) (Pb9 (r:=361) rfl Tryz.isAgg103 rfl rfl rfl) (AH_takeT 21 rfl (by kernel_rfl) (by kernel_rfl) (by kernel_rfl) rfl rfl rfl (by rw [hsq3]; rfl) rfl (by decide) (F9 0 rfl rfl) (AH_takeT 22 rfl (by kernel_rfl) (by kernel_rfl) (by kernel_rfl) rfl rfl rfl (by rw [hsq3]; rfl) rfl (by decide) (Pb9 (r:=101) rfl Tryz.isAgg27 rfl rfl rfl) (AH_takeT 23 rfl (by kernel_rfl) (by kernel_rfl) (by kernel_rfl) rfl rfl rfl (by rw [hsq3]; rfl) rfl (by decide) (Pl9 (r:=0) rfl Tryz.runUnderlying27 rfl rfl hF) ?_))))))))))
     rw [hml]
     refine (Y9 [20] ?_)
     refine AHs_gT rfl rfl rfl rfl (by rw [hsq3]; rfl) rfl (by decide) (Or9 (Pu_lenMet (r:=400) rfl Tryz.underlying103 rfl rfl) ⟨⟨rfl,rfl,rfl,rfl,trivial⟩,?_⟩) ?_
     ·
      refine (AH_takeT 24 rfl (by kernel_rfl) (by kernel_rfl) (by kernel_rfl) rfl rfl rfl (by rw [hsq3]; rfl) rfl (by decide) (Pn9 rfl rfl rfl (run_neq _ _ _ _ _ _)) (T9 25 rfl rfl (Pu_pickF rfl rfl hsq3 rfl) (Ad9 (by kernel_rfl) (X9 ?_))))
      refine C9 rfl (fun hc49=>?_) (fun hc49=>?_)
      ·
       have hno:¬ SoundV (vw ls) es id:=fun hc=>by rw [hc.cnt] at hc49; simp at hc49
       refine Q9 (R9 (G9 rfl rfl (N9 (X9 ?_))))
       refine W_ret (X_then_ret ?_)
       exact Xq9 [] (Ps:=[]) (res1 Tryz.results32 rfl) rfl (by decide) ⟨_,rfl,⟨fun h=>(by cases h),fun h=>absurd h hno⟩,rfl⟩
      ·
       have hcn:(nubL (nodeW (vw ls) 6 id 0 []).2.1).length=es.length:=by have h9:((nubL (nodeW (vw ls) 6 id 0 []).2.1).length:Int)=(es.length:Int):=(by simpa using hc49); exact_mod_cast h9
       refine K9 (X9 ?_)
       refine Q9 (Q9 ?_)
       refine W_ren 400 352 rfl ?_
       refine R9 (L9 rfl (F9 0 rfl rfl) (L9 rfl (Pb9 (r:=101) rfl Tryz.isAgg27 rfl rfl rfl) (L9 rfl (Pl9 (r:=0) rfl Tryz.runUnderlying27 rfl rfl hF) ?_)))
       rw [hml]
       refine (M9 rfl rfl (N9 (X9 ?_)))
       refine W_block ?_
       refine W_loop (α:=Nat) (fun x=>[(1,.pointer (some ⟨g101,0,none⟩)),(3,.pointer (some ⟨g361,0,none⟩)),(51,v),(52,.int .i64 (es.length:Int)),(53,.int .i64 (x:Int))]) (fun x=>[(0,F),(101,blk g101 31 (treeC v id)),(361,blk g361 127 [.map (some gm),.map (some gmm),.map (some gww)]),(352,metP gmm (nodeW (vw ls) 6 id 0 []).2.1)]) (fun x=>x≤es.length∧∀ j,j < x→GoodB es (nodeW (vw ls) 6 id 0 []).2.1 j) (fun x=>es.length - x) (0) ⟨Nat.zero_le _,fun j hj=>absurd hj (Nat.not_lt_zero j)⟩ (a9 rfl) (a9 rfl) (fun x hx=>?_)
       obtain ⟨hx,hxg⟩:=hx
       refine Q9 (R9 (L9 rfl (Pn9 rfl rfl rfl (run_lss _ _ _ _ _ _)) (N9 (X9 (Q9 ?_)))))
       refine C9 rfl (fun hc54=>?_) (fun hc54=>?_)
       ·
        have hlt:x < es.length:=by have:=of_decide_eq_true hc54; omega
        obtain ⟨b,hb⟩:∃ b,es[x]?=some b:=⟨_,List.getElem?_eq_getElem hlt⟩
        refine K9 (X9 ?_)
        refine Q9 ?_
        refine W_block ?_
        refine Q9 (R9 (M9 rfl rfl (L9 rfl (Pi9 (r:=0) rfl Tryz.runUnderlying27 Tryz.sizeOf59 rfl rfl rfl hF (by rw [hml]; omega)) (L9 rfl (Pz9 (r:=0) rfl Tryz.isAgg59 Tryz.sizeOf59 rfl rfl hF (bvC_length b.1) (by decide) (eb_all hb)) (Lc9 rfl rfl (by decide) (OpT_alloc (r:=403) rfl (zero_run (by kernel_rfl:(Tryz.prog.info? 59).bind (·.zero)=some (.agg (bkC zeroId (.slice none 0 0) 0 0).toArray))) rfl (fun g403=>(G9 rfl rfl (Lc09 rfl rfl (OpT_storeAll (r:=403) rfl Tryz.sizeOf59 rfl rfl rfl (bkC_length zeroId_length) (bvC_length b.1) (bvC_one b.1) ?_))))))))))
        refine (N9 (X9 ?_))
        refine Q9 ?_
        rcases Bool.eq_false_or_eq_true ((decide (((cntK b.1.key (nodeW (vw ls) 6 id 0 []).2.1:Nat):Int)=0) || !decide (b.1.src=0) || !decide (b.1.exp=0))) with hsp8 | hsp8
        ·
         have hno:¬ SoundV (vw ls) es id:=fun hc=>by have h9:=hc.good x hlt b hb; rw [h9.2.1,h9.2.2.1] at hsp8; simp at hsp8; exact (cntK_zero _ _).1 (by omega) h9.1
         refine W_draw (N:=35) (by kernel_rfl) rfl [(0,_),(101,_),(361,_),(403,_),(352,_)] ⟨rfl,rfl,rfl,rfl,rfl,trivial⟩ ?_
         refine (T9 0 rfl rfl (Pm9 rfl rfl) (T9 1 rfl rfl (Pu_nilCheck rfl rfl) (T9 2 rfl rfl (F9 1 rfl rfl) (T9 3 rfl rfl (Pb9 (r:=361) rfl Tryz.isAgg103 rfl rfl rfl) (T9 4 rfl rfl (F9 0 rfl rfl) (T9 5 rfl rfl (Px9 (r:=403) rfl Tryz.isAgg29 Tryz.sizeOf29 rfl rfl ((bs_length _).trans b.1.len) (bk_key b.1.len)) (Y9 [6] ?_)))))))
         refine Z9 rfl rfl (Or9 (Pu_lookupMet (r:=352) keyB rfl Tryz.underlying103 Tryz.zeroValue3 rfl rfl b.1.len rfl) ⟨⟨rfl,rfl,rfl,rfl,rfl,trivial⟩,?_⟩) ?_
         ·
          refine (T9 7 rfl rfl (Pn9 rfl rfl rfl (run_eql _ _ _ _ _ _)) (T9 8 rfl rfl (Pm9 rfl rfl) (AH_takeG 9 rfl (by kernel_rfl) (by kernel_rfl) (by kernel_rfl) rfl rfl rfl rfl (by decide) (fun hb=>(F9 33 rfl rfl)) (AH_takeG 10 rfl (by kernel_rfl) (by kernel_rfl) (by kernel_rfl) rfl rfl rfl rfl (by decide) (fun hb=>(Pb9 (r:=403) rfl Tryz.isAgg3 (ev_gv rfl hb) rfl (bk_src b.1.len))) (AH_takeG 11 rfl (by kernel_rfl) (by kernel_rfl) (by kernel_rfl) rfl rfl rfl rfl (by decide) (fun hb=>(Pn9 rfl (ev_gv rfl hb) rfl (run_neq _ _ _ _ _ _))) (T9 12 rfl rfl (Pu_or rfl rfl rfl) (T9 13 rfl rfl (Pm9 rfl rfl) (AH_takeG 14 rfl (by kernel_rfl) (by kernel_rfl) (by kernel_rfl) rfl rfl rfl rfl (by decide) (fun hb=>(F9 34 rfl rfl)) (AH_takeG 15 rfl (by kernel_rfl) (by kernel_rfl) (by kernel_rfl) rfl rfl rfl rfl (by decide) (fun hb=>(Pb9 (r:=403) rfl Tryz.isAgg3 (ev_gv rfl hb) rfl (bk_exp b.1.len))) (AH_takeG 16 rfl (by kernel_rfl) (by kernel_rfl) (by kernel_rfl) rfl rfl rfl rfl (by decide) (fun hb=>(Pn9 rfl (ev_gv rfl hb) rfl (run_neq _ _ _ _ _ _))) (T9 17 rfl rfl (Pu_or rfl rfl rfl) (T9 18 rfl rfl (Pm9 rfl rfl) (AH_takeF 19 rfl (by kernel_rfl) (by kernel_rfl) (by kernel_rfl) rfl rfl rfl (by rw [hsp8]; rfl) rfl (by decide) (AH_takeF 20 rfl (by kernel_rfl) (by kernel_rfl) (by kernel_rfl) rfl rfl rfl (by rw [hsp8]; rfl) rfl (by decide) (AH_takeF 21 rfl (by kernel_rfl) (by kernel_rfl) (by kernel_rfl) rfl rfl rfl (by rw [hsp8]; rfl) rfl (by decide) (AH_takeF 22 rfl (by kernel_rfl) (by kernel_rfl) (by kernel_rfl) rfl rfl rfl rfl rfl (by decide) (AH_takeF 23 rfl (by kernel_rfl) (by kernel_rfl) (by kernel_rfl) rfl rfl rfl rfl rfl (by decide) (AH_takeF 24 rfl (by kernel_rfl) (by kernel_rfl) (by kernel_rfl) rfl rfl rfl rfl rfl (by decide) (AH_takeF 25 rfl (by kernel_rfl) (by kernel_rfl) (by kernel_rfl) rfl rfl rfl rfl rfl (by decide) (AH_takeF 26 rfl (by kernel_rfl) (by kernel_rfl) (by kernel_rfl) rfl rfl rfl rfl rfl (by decide) (AH_takeF 27 rfl (by kernel_rfl) (by kernel_rfl) (by kernel_rfl) rfl rfl rfl rfl rfl (by decide) (AH_takeF 28 rfl (by kernel_rfl) (by kernel_rfl) (by kernel_rfl) rfl rfl rfl rfl rfl (by decide) (AH_takeF 29 rfl (by kernel_rfl) (by kernel_rfl) (by kernel_rfl) rfl rfl rfl rfl rfl (by decide) (AH_takeF 30 rfl (by kernel_rfl) (by kernel_rfl) (by kernel_rfl) rfl rfl rfl rfl rfl (by decide) (Y9 [31] ?_)))))))))))))))))))))))))
          refine AHs_gF rfl rfl rfl rfl rfl rfl (by decide) ?_ ?_
          ·
           refine (AH_takeF 32 rfl (by kernel_rfl) (by kernel_rfl) (by kernel_rfl) rfl rfl rfl rfl rfl (by decide) (AH_takeF 33 rfl (by kernel_rfl) (by kernel_rfl) (by kernel_rfl) rfl rfl rfl (by rw [hsp8]; rfl) rfl (by decide) (T9 34 rfl rfl (Pu_pickT rfl rfl hsp8 rfl) (Ad9 (by kernel_rfl) (X9 ?_)))))
           refine W_true rfl (rfl) ?_
           refine Q9 (R9 (G9 rfl rfl (N9 (X9 ?_))))
           refine W_ret (X_block_ret (X_then_ret (X_then_ret (X_block_ret (X_then_ret ?_)))))
           exact Xq9 [] (Ps:=[]) (res1 Tryz.results32 rfl) rfl (by decide) ⟨_,rfl,⟨fun h=>(by cases h),fun h=>absurd h hno⟩,rfl⟩
          exact An9
         exact An9
        ·
         have hk3:b.1.key ∈ (nodeW (vw ls) 6 id 0 []).2.1∧b.1.src=0∧b.1.exp=0:=keep3 hsp8
         rcases Bool.eq_false_or_eq_true (decide ((0:Int) < (x:Int))) with hsq8 | hsq8
         ·
          have hx0:0 < x:=by have:=of_decide_eq_true hsq8; omega
          obtain ⟨a,ha⟩:∃ a,es[x - 1]?=some a:=⟨_,List.getElem?_eq_getElem (by omega)⟩
          refine W_draw (N:=35) (by kernel_rfl) rfl [(0,_),(101,_),(361,_),(403,_),(352,_)] ⟨rfl,rfl,rfl,rfl,rfl,trivial⟩ ?_
          refine (T9 0 rfl rfl (Pm9 rfl rfl) (T9 1 rfl rfl (Pu_nilCheck rfl rfl) (T9 2 rfl rfl (F9 1 rfl rfl) (T9 3 rfl rfl (Pb9 (r:=361) rfl Tryz.isAgg103 rfl rfl rfl) (T9 4 rfl rfl (F9 0 rfl rfl) (T9 5 rfl rfl (Px9 (r:=403) rfl Tryz.isAgg29 Tryz.sizeOf29 rfl rfl ((bs_length _).trans b.1.len) (bk_key b.1.len)) (Y9 [6] ?_)))))))
          refine Z9 rfl rfl (Or9 (Pu_lookupMet (r:=352) keyB rfl Tryz.underlying103 Tryz.zeroValue3 rfl rfl b.1.len rfl) ⟨⟨rfl,rfl,rfl,rfl,rfl,trivial⟩,?_⟩) ?_
          ·
           refine (T9 7 rfl rfl (Pn9 rfl rfl rfl (run_eql _ _ _ _ _ _)) (T9 8 rfl rfl (Pm9 rfl rfl) (AH_takeG 9 rfl (by kernel_rfl) (by kernel_rfl) (by kernel_rfl) rfl rfl rfl rfl (by decide) (fun hb=>(F9 33 rfl rfl)) (AH_takeG 10 rfl (by kernel_rfl) (by kernel_rfl) (by kernel_rfl) rfl rfl rfl rfl (by decide) (fun hb=>(Pb9 (r:=403) rfl Tryz.isAgg3 (ev_gv rfl hb) rfl (bk_src b.1.len))) (AH_takeG 11 rfl (by kernel_rfl) (by kernel_rfl) (by kernel_rfl) rfl rfl rfl rfl (by decide) (fun hb=>(Pn9 rfl (ev_gv rfl hb) rfl (run_neq _ _ _ _ _ _))) (T9 12 rfl rfl (Pu_or rfl rfl rfl) (T9 13 rfl rfl (Pm9 rfl rfl) (AH_takeG 14 rfl (by kernel_rfl) (by kernel_rfl) (by kernel_rfl) rfl rfl rfl rfl (by decide) (fun hb=>(F9 34 rfl rfl)) (AH_takeG 15 rfl (by kernel_rfl) (by kernel_rfl) (by kernel_rfl) rfl rfl rfl rfl (by decide) (fun hb=>(Pb9 (r:=403) rfl Tryz.isAgg3 (ev_gv rfl hb) rfl (bk_exp b.1.len))) (AH_takeG 16 rfl (by kernel_rfl) (by kernel_rfl) (by kernel_rfl) rfl rfl rfl rfl (by decide) (fun hb=>(Pn9 rfl (ev_gv rfl hb) rfl (run_neq _ _ _ _ _ _))) (T9 17 rfl rfl (Pu_or rfl rfl rfl) (T9 18 rfl rfl (Pm9 rfl rfl) (AH_takeT 19 rfl (by kernel_rfl) (by kernel_rfl) (by kernel_rfl) rfl rfl rfl (by rw [hsp8]; rfl) rfl (by decide) (Pm9 rfl rfl) (AH_takeT 20 rfl (by kernel_rfl) (by kernel_rfl) (by kernel_rfl) rfl rfl rfl (by rw [hsp8]; rfl) rfl (by decide) (Pn9 rfl rfl rfl (run_gtr _ _ _ _ _ _)) (AH_takeT 21 rfl (by kernel_rfl) (by kernel_rfl) (by kernel_rfl) rfl rfl rfl (by rw [hsp8]; rfl) rfl (by decide) (Pm9 rfl rfl) (AH_takeT 22 rfl (by kernel_rfl) (by kernel_rfl) (by kernel_rfl) rfl rfl rfl (by rw [hsq8]; rfl) rfl (by decide) (F9 0 rfl rfl) (AH_takeT 23 rfl (by kernel_rfl) (by kernel_rfl) (by kernel_rfl) rfl rfl rfl (by rw [hsq8]; rfl) rfl (by decide) (Pb9 (r:=101) rfl Tryz.isAgg27 rfl rfl rfl) (AH_takeT 24 rfl (by kernel_rfl) (by kernel_rfl) (by kernel_rfl) rfl rfl rfl (by rw [hsq8]; rfl) rfl (by decide) (Pm9 rfl rfl) (AH_takeT 25 rfl (by kernel_rfl) (by kernel_rfl) (by kernel_rfl) rfl rfl rfl (by rw [hsq8]; rfl) rfl (by decide) (Pn9 rfl rfl rfl (run_sub _ _ _ _ _ (by omega))) ?_)))))))))))))))))))
           rw [show (x:Int) - 1=((x - 1:Nat):Int) by omega]
           refine (AH_takeT 26 rfl (by kernel_rfl) (by kernel_rfl) (by kernel_rfl) rfl rfl rfl (by rw [hsq8]; rfl) rfl (by decide) (Pi9 (r:=0) rfl Tryz.runUnderlying27 Tryz.sizeOf59 rfl rfl rfl hF (by rw [hml]; omega)) (AH_takeT 27 rfl (by kernel_rfl) (by kernel_rfl) (by kernel_rfl) rfl rfl rfl (by rw [hsq8]; rfl) rfl (by decide) (Pu_fieldAddrE (off:=0) rfl rfl (by kernel_rfl)) (AH_takeT 28 rfl (by kernel_rfl) (by kernel_rfl) (by kernel_rfl) rfl rfl rfl (by rw [hsq8]; rfl) rfl (by decide) (Pu_sliceArrE rfl Tryz.runUnderlying29 Tryz.sizeOf5 rfl) (AH_takeT 29 rfl (by kernel_rfl) (by kernel_rfl) (by kernel_rfl) rfl rfl rfl (by rw [hsq8]; rfl) rfl (by decide) (F9 0 rfl rfl) (AH_takeT 30 rfl (by kernel_rfl) (by kernel_rfl) (by kernel_rfl) rfl rfl rfl (by rw [hsq8]; rfl) rfl (by decide) (Pu_sliceArr rfl Tryz.runUnderlying29 Tryz.sizeOf5 rfl) (Y9 [31] ?_))))))
           refine AHs_gT rfl rfl rfl rfl (by rw [hsq8]; rfl) rfl (by decide) (Oc9 500 [0,101,352,361,403] [] rfl Tryz.call41 rfl rfl rfl (by decide) (by decide) (compare_spec _ _ a.1.key b.1.key _ (rs9 0 rfl (fun h hp=>ebk_rd (k:=x - 1) (hF h hp) rfl ha)) (rs9 4 rfl (fun h hp=>bk_rdB hp))) (fun v89 Ps89 hR89=>?_)) ?_
           ·
            obtain ⟨rfl,rfl⟩:=hR89
            refine ⟨⟨rfl,rfl,rfl,rfl,rfl,trivial⟩,?_⟩
            refine (AH_takeT 32 rfl (by kernel_rfl) (by kernel_rfl) (by kernel_rfl) rfl rfl rfl (by rw [hsq8]; rfl) rfl (by decide) (Pn9 rfl rfl rfl (run_geq _ _ _ _ _ _)) (AH_takeT 33 rfl (by kernel_rfl) (by kernel_rfl) (by kernel_rfl) rfl rfl rfl (by rw [hsp8]; rfl) rfl (by decide) (Pu_pickT rfl rfl hsq8 rfl) (T9 34 rfl rfl (Pu_pickF rfl rfl hsp8 rfl) (Ad9 (by kernel_rfl) (X9 ?_)))))
            refine C9 rfl (fun hc92=>?_) (fun hc92=>?_)
            ·
             have hno:¬ SoundV (vw ls) es id:=fun hc=>by rw [cmp_ge (a.1.len.trans b.1.len.symm),(hc.good x hlt b hb).2.2.2 a hx0 ha] at hc92; cases hc92
             refine Q9 (R9 (G9 rfl rfl (N9 (X9 ?_))))
             refine W_ret (X_block_ret (X_then_ret (X_then_ret (X_block_ret (X_then_ret ?_)))))
             exact Xq9 [] (Ps:=[]) (res1 Tryz.results32 rfl) rfl (by decide) ⟨_,rfl,⟨fun h=>(by cases h),fun h=>absurd h hno⟩,rfl⟩
            ·
             have hgx:GoodB es (nodeW (vw ls) 6 id 0 []).2.1 x:=fun b2 hb2=>by rw [hb] at hb2; injection hb2 with hb2; subst hb2; exact ⟨hk3.1,hk3.2.1,hk3.2.2,fun a2 h0 ha2=>by rw [ha] at ha2; injection ha2 with ha2; subst ha2; rw [cmp_ge (a.1.len.trans b.1.len.symm)] at hc92; simpa using hc92⟩
             refine K9 (X_block (X9 ?_))
             refine R9 (L9 rfl (Pn9 rfl rfl rfl (run_add _ _ _ _ _ (by omega))) (M9 rfl rfl (N9 ?_)))
             exact Xr9 (x + 1) ⟨by omega,fun j hj=>(Nat.lt_or_eq_of_le (Nat.le_of_lt_succ hj)).elim (hxg j) (fun e=>e ▸ hgx)⟩ (by omega) (a9 rfl) (a9 rfl)
           exact An9
          exact An9
         ·
          have hx0:¬ 0 < x:=by have:=of_decide_eq_false hsq8; omega
          have hgx:GoodB es (nodeW (vw ls) 6 id 0 []).2.1 x:=fun b2 hb2=>by rw [hb] at hb2; injection hb2 with hb2; subst hb2; exact ⟨hk3.1,hk3.2.1,hk3.2.2,fun a h0 _=>absurd h0 hx0⟩
          refine W_draw (N:=35) (by kernel_rfl) rfl [(0,_),(101,_),(361,_),(403,_),(352,_)] ⟨rfl,rfl,rfl,rfl,rfl,trivial⟩ ?_
          refine (T9 0 rfl rfl (Pm9 rfl rfl) (T9 1 rfl rfl (Pu_nilCheck rfl rfl) (T9 2 rfl rfl (F9 1 rfl rfl) (T9 3 rfl rfl (Pb9 (r:=361) rfl Tryz.isAgg103 rfl rfl rfl) (T9 4 rfl rfl (F9 0 rfl rfl) (T9 5 rfl rfl (Px9 (r:=403) rfl Tryz.isAgg29 Tryz.sizeOf29 rfl rfl ((bs_length _).trans b.1.len) (bk_key b.1.len)) (Y9 [6] ?_)))))))
          refine Z9 rfl rfl (Or9 (Pu_lookupMet (r:=352) keyB rfl Tryz.underlying103 Tryz.zeroValue3 rfl rfl b.1.len rfl) ⟨⟨rfl,rfl,rfl,rfl,rfl,trivial⟩,?_⟩) ?_
          ·
           refine (T9 7 rfl rfl (Pn9 rfl rfl rfl (run_eql _ _ _ _ _ _)) (T9 8 rfl rfl (Pm9 rfl rfl) (AH_takeG 9 rfl (by kernel_rfl) (by kernel_rfl) (by kernel_rfl) rfl rfl rfl rfl (by decide) (fun hb=>(F9 33 rfl rfl)) (AH_takeG 10 rfl (by kernel_rfl) (by kernel_rfl) (by kernel_rfl) rfl rfl rfl rfl (by decide) (fun hb=>(Pb9 (r:=403) rfl Tryz.isAgg3 (ev_gv rfl hb) rfl (bk_src b.1.len))) (AH_takeG 11 rfl (by kernel_rfl) (by kernel_rfl) (by kernel_rfl) rfl rfl rfl rfl (by decide) (fun hb=>(Pn9 rfl (ev_gv rfl hb) rfl (run_neq _ _ _ _ _ _))) (T9 12 rfl rfl (Pu_or rfl rfl rfl) (T9 13 rfl rfl (Pm9 rfl rfl) (AH_takeG 14 rfl (by kernel_rfl) (by kernel_rfl) (by kernel_rfl) rfl rfl rfl rfl (by decide) (fun hb=>(F9 34 rfl rfl)) (AH_takeG 15 rfl (by kernel_rfl) (by kernel_rfl) (by kernel_rfl) rfl rfl rfl rfl (by decide) (fun hb=>(Pb9 (r:=403) rfl Tryz.isAgg3 (ev_gv rfl hb) rfl (bk_exp b.1.len))) (AH_takeG 16 rfl (by kernel_rfl) (by kernel_rfl) (by kernel_rfl) rfl rfl rfl rfl (by decide) (fun hb=>(Pn9 rfl (ev_gv rfl hb) rfl (run_neq _ _ _ _ _ _))) (T9 17 rfl rfl (Pu_or rfl rfl rfl) (T9 18 rfl rfl (Pm9 rfl rfl) (AH_takeT 19 rfl (by kernel_rfl) (by kernel_rfl) (by kernel_rfl) rfl rfl rfl (by rw [hsp8]; rfl) rfl (by decide) (Pm9 rfl rfl) (AH_takeT 20 rfl (by kernel_rfl) (by kernel_rfl) (by kernel_rfl) rfl rfl rfl (by rw [hsp8]; rfl) rfl (by decide) (Pn9 rfl rfl rfl (run_gtr _ _ _ _ _ _)) (AH_takeT 21 rfl (by kernel_rfl) (by kernel_rfl) (by kernel_rfl) rfl rfl rfl (by rw [hsp8]; rfl) rfl (by decide) (Pm9 rfl rfl) (AH_takeF 22 rfl (by kernel_rfl) (by kernel_rfl) (by kernel_rfl) rfl rfl rfl (by rw [hsq8]; rfl) rfl (by decide) (AH_takeF 23 rfl (by kernel_rfl) (by kernel_rfl) (by kernel_rfl) rfl rfl rfl (by rw [hsq8]; rfl) rfl (by decide) (AH_takeF 24 rfl (by kernel_rfl) (by kernel_rfl) (by kernel_rfl) rfl rfl rfl (by rw [hsq8]; rfl) rfl (by decide) (AH_takeF 25 rfl (by kernel_rfl) (by kernel_rfl) (by kernel_rfl) rfl rfl rfl (by rw [hsq8]; rfl) rfl (by decide) (AH_takeF 26 rfl (by kernel_rfl) (by kernel_rfl) (by kernel_rfl) rfl rfl rfl (by rw [hsq8]; rfl) rfl (by decide) (AH_takeF 27 rfl (by kernel_rfl) (by kernel_rfl) (by kernel_rfl) rfl rfl rfl (by rw [hsq8]; rfl) rfl (by decide) (AH_takeF 28 rfl (by kernel_rfl) (by kernel_rfl) (by kernel_rfl) rfl rfl rfl (by rw [hsq8]; rfl) rfl (by decide) (AH_takeF 29 rfl (by kernel_rfl) (by kernel_rfl) (by kernel_rfl) rfl rfl rfl (by rw [hsq8]; rfl) rfl (by decide) (AH_takeF 30 rfl (by kernel_rfl) (by kernel_rfl) (by kernel_rfl) rfl rfl rfl (by rw [hsq8]; rfl) rfl (by decide) (Y9 [31] ?_)))))))))))))))))))))))))
           refine AHs_gF rfl rfl rfl rfl (by rw [hsq8]; rfl) rfl (by decide) ?_ ?_
           ·
            refine (AH_takeF 32 rfl (by kernel_rfl) (by kernel_rfl) (by kernel_rfl) rfl rfl rfl (by rw [hsq8]; rfl) rfl (by decide) (AH_takeT 33 rfl (by kernel_rfl) (by kernel_rfl) (by kernel_rfl) rfl rfl rfl (by rw [hsp8]; rfl) rfl (by decide) (Pu_pickF rfl rfl hsq8 rfl) (T9 34 rfl rfl (Pu_pickF rfl rfl hsp8 rfl) (Ad9 (by kernel_rfl) (X9 ?_)))))
            refine W_false rfl (rfl) ?_
            refine K9 (X_block (X9 ?_))
            refine R9 (L9 rfl (Pn9 rfl rfl rfl (run_add _ _ _ _ _ (by omega))) (M9 rfl rfl (N9 ?_)))
            exact Xr9 (x + 1) ⟨by omega,fun j hj=>(Nat.lt_or_eq_of_le (Nat.le_of_lt_succ hj)).elim (hxg j) (fun e=>e ▸ hgx)⟩ (by omega) (a9 rfl) (a9 rfl)
           exact An9
          exact An9
       ·
        have hge:es.length≤x:=by have:=of_decide_eq_false hc54; omega
        refine W_exit (X_then_exit (X_then_exit (X_block_exit (X9 ?_))))
        refine Q9 (R9 (G9 rfl rfl (N9 (X9 ?_))))
        refine W_ret ?_
        exact Xq9 [] (Ps:=[]) (res1 Tryz.results32 rfl) rfl (by decide) ⟨_,rfl,⟨fun _=>⟨h12.1,h12.2,hok,hcn,fun j hj=>hxg j (by omega)⟩,fun _=>rfl⟩,rfl⟩
     exact An9
    exact An9
open Go.RowKit
set_option maxRecDepth 8000
def Crs (es os:List EB):Prop:=∀ e ∈ es,∀ o ∈ os,e.1.key=o.1.key→e.2=o.2
theorem crs_in {os:List EB} {e o:EB} {y:Nat} (h:∀ q ∈ os.take y,e.1.key=q.1.key→e.2=q.2) (ho:os[y]?=some o) (h2:e.1.key=o.1.key→e.2=o.2):∀ q ∈ os.take (y + 1),e.1.key=q.1.key→e.2=q.2:=fun q hq=>by
  rw [take_snoc2 ho] at hq
  rcases List.mem_append.1 hq with hq | hq
  · exact h q hq
  · rw [List.mem_singleton.1 hq]; exact h2
theorem crs_out {es os:List EB} {e:EB} {x:Nat} (h:Crs (es.take x) os) (he:es[x]?=some e) (h2:∀ q ∈ os,e.1.key=q.1.key→e.2=q.2):Crs (es.take (x + 1)) os:=fun q hq=>by
  rw [take_snoc2 he] at hq
  rcases List.mem_append.1 hq with hq | hq
  · exact h q hq
  · rw [List.mem_singleton.1 hq]; exact h2
structure NoMeet (xa xb:List F3):Prop where
  left:(putsT ([],false) (dirI 5 (partsN xa)).2).2=false
  right:(putsT ([],false) (dirI 5 (partsN xb)).2).2=false
  cross:∀ p ∈ (putsT ([],false) (dirI 5 (partsN xa)).2).1,∀ q ∈ (putsT ([],false) (dirI 5 (partsN xb)).2).1,p.1=q.1→p.2.1=q.2.1
theorem noMeet {xa xb:List F3} {es os:List EB} {la lb:List TB} (h1:(la,false)=putsT ([],false) (dirI 5 (partsN xa)).2) (h2:(lb,false)=putsT ([],false) (dirI 5 (partsN xb)).2) (he:es.map toTB=la) (ho:os.map toTB=lb) (hc:Crs es os):NoMeet xa xb:=by
  refine ⟨by rw [← h1],by rw [← h2],fun p hp q hq hk=>?_⟩
  rw [← h1,← he] at hp
  rw [← h2,← ho] at hq
  obtain ⟨e,hem,rfl⟩:=List.mem_map.1 hp
  obtain ⟨o,hom,rfl⟩:=List.mem_map.1 hq
  exact hc e hem o hom hk
theorem ref_len {xs:List F3} (hb:buildE xs=0) {l:List TB} {m:Bool} (h:(l,m)=putsT ([],false) (dirI 5 (partsN xs)).2) {es:List EB} (he:es.map toTB=l):es.length≤1000000000000:=by
  have h1:=putsT_len ([],false) (dirI 5 (partsN xs)).2
  obtain ⟨h2,h3⟩:=parts_ok hb
  have h4:=dirI_le 5 (partsN xs) h2 (fun p hp=>by have:=(h3 p hp).1; omega)
  have h5:bnd 5≤1000000000000:=by decide
  rw [← h] at h1
  have h6:=congrArg List.length he
  rw [List.length_map] at h6
  simp at h1
  omega
theorem met_spec (va vb:Value) (es os:List EB) (hen:es.length≤1000000000000) (hon:os.length≤1000000000000) (F:HP) (hA:∀ h,F h→rdP 35 va es.length (recC bvC (es.map (fun p:EB=>p.1))) h) (hDA:∀ h,F h→datE es h) (hB:∀ h,F h→rdP 35 vb os.length (recC bvC (os.map (fun p:EB=>p.1))) h) (hDB:∀ h,F h→datE os h):CallsS Tryz.prog 42 #[va,vb] F [] (fun r Ps=>Ps=[]∧∃ b:Bool,r = .bool b∧(b=false→Crs es os)):=by
 refine callsS_enter Tryz.func42 rfl Tryz.ntmps42 (by simp) (fun E=>?_)
 refine Q9 (R9 (G9 rfl rfl (N9 (X9 (Q9 (Q9 (R9 (G9 rfl rfl (N9 (X9 ?_))))))))))
 refine W_block ?_
 refine W_loop (α:=Nat) (fun x=>[(0,va),(1,vb),(5,.int .i64 (x:Int))]) (fun x=>[(0,F)]) (fun x=>x≤es.length∧Crs (es.take x) os) (fun x=>es.length - x) (0) ⟨Nat.zero_le _,fun e he=>by simp at he⟩ (a9 rfl) ⟨rfl,trivial⟩ (fun x hx=>?_)
 obtain ⟨hx,hxc⟩:=hx
 refine Q9 (Q9 (R9 (M9 rfl rfl (M9 rfl rfl (L9 rfl (Pl9 (r:=0) rfl Tryz.runUnderlying27 rfl rfl hA) (L9 rfl (Pn9 rfl rfl rfl (run_lss _ _ _ _ _ _)) (N9 (X9 ?_))))))))
 refine C9 rfl (fun hc10=>?_) (fun hc10=>?_)
 ·
  have hlt:x < es.length:=by have:=of_decide_eq_true hc10; omega
  obtain ⟨e,he⟩:∃ e,es[x]?=some e:=⟨_,List.getElem?_eq_getElem hlt⟩
  have hed:∀ h,F h→rdB e.1.sl e.2 h:=fun h hp=>hDA h hp e (List.mem_of_getElem? he)
  refine K9 (X9 ?_)
  refine Q9 ?_
  refine W_block ?_
  refine Q9 (R9 (G9 rfl rfl (N9 (X9 ?_))))
  refine W_block ?_
  refine W_loop (α:=Nat) (fun y=>[(0,va),(1,vb),(5,.int .i64 (x:Int)),(6,.int .i64 (y:Int))]) (fun y=>[(0,F)]) (fun y=>y≤os.length∧(∀ q ∈ os.take y,e.1.key=q.1.key→e.2=q.2)) (fun y=>os.length - y) (0) ⟨Nat.zero_le _,fun q hq=>by simp at hq⟩ (a9 rfl) ⟨rfl,trivial⟩ (fun y hy=>?_)
  obtain ⟨hy,hyc⟩:=hy
  refine Q9 (Q9 (R9 (M9 rfl rfl (M9 rfl rfl (L9 rfl (Pl9 (r:=0) rfl Tryz.runUnderlying27 rfl rfl hB) (L9 rfl (Pn9 rfl rfl rfl (run_lss _ _ _ _ _ _)) (N9 (X9 ?_))))))))
  refine C9 rfl (fun hc16=>?_) (fun hc16=>?_)
  ·
   have hlt2:y < os.length:=by have:=of_decide_eq_true hc16; omega
   obtain ⟨o,ho⟩:∃ o,os[y]?=some o:=⟨_,List.getElem?_eq_getElem hlt2⟩
   have hod:∀ h,F h→rdB o.1.sl o.2 h:=fun h hp=>hDB h hp o (List.mem_of_getElem? ho)
   refine K9 (X9 ?_)
   refine Q9 ?_
   refine W_block ?_
   refine Q9 ?_
   rcases Bool.eq_false_or_eq_true (e.1.key == o.1.key) with hsp7 | hsp7
   ·
    refine W_draw (N:=26) (by kernel_rfl) rfl [(0,_)] ⟨rfl,trivial⟩ ?_
    refine (T9 0 rfl rfl (Pm9 rfl rfl) (T9 1 rfl rfl (Pm9 rfl rfl) (T9 2 rfl rfl (Pi9 (r:=0) rfl Tryz.runUnderlying27 Tryz.sizeOf59 rfl rfl rfl hA (by omega)) (T9 3 rfl rfl (Pu_fieldAddrE (off:=0) rfl rfl (by kernel_rfl)) (T9 4 rfl rfl (Pz9 (r:=0) rfl Tryz.isAgg29 Tryz.sizeOf29 rfl rfl hA ((bs_length _).trans e.1.len) (by decide) (eb_key (k:=x) he)) (T9 5 rfl rfl (Pm9 rfl rfl) (T9 6 rfl rfl (Pm9 rfl rfl) (T9 7 rfl rfl (Pi9 (r:=0) rfl Tryz.runUnderlying27 Tryz.sizeOf59 rfl rfl rfl hB (by omega)) (T9 8 rfl rfl (Pu_fieldAddrE (off:=0) rfl rfl (by kernel_rfl)) (T9 9 rfl rfl (Pz9 (r:=0) rfl Tryz.isAgg29 Tryz.sizeOf29 rfl rfl hB ((bs_length _).trans o.1.len) (by decide) (eb_key (k:=y) ho)) (T9 10 rfl rfl (Pn9 rfl rfl rfl (run_idEq _ _ e.1.len o.1.len _ _)) (T9 11 rfl rfl (Pm9 rfl rfl) (AH_takeT 12 rfl (by kernel_rfl) (by kernel_rfl) (by kernel_rfl) rfl rfl rfl (by rw [hsp7]; rfl) rfl (by decide) (Pm9 rfl rfl) (AH_takeT 13 rfl (by kernel_rfl) (by kernel_rfl) (by kernel_rfl) rfl rfl rfl (by rw [hsp7]; rfl) rfl (by decide) (Pm9 rfl rfl) (AH_takeT 14 rfl (by kernel_rfl) (by kernel_rfl) (by kernel_rfl) rfl rfl rfl (by rw [hsp7]; rfl) rfl (by decide) (Pi9 (r:=0) rfl Tryz.runUnderlying27 Tryz.sizeOf59 rfl rfl rfl hA (by omega)) (AH_takeT 15 rfl (by kernel_rfl) (by kernel_rfl) (by kernel_rfl) rfl rfl rfl (by rw [hsp7]; rfl) rfl (by decide) (Pu_fieldAddrE (off:=32) rfl rfl (by kernel_rfl)) (AH_takeT 16 rfl (by kernel_rfl) (by kernel_rfl) (by kernel_rfl) rfl rfl rfl (by rw [hsp7]; rfl) rfl (by decide) (Py9 (r:=0) rfl Tryz.isAgg36 rfl rfl hA (eb_data (k:=x) he)) (AH_takeT 17 rfl (by kernel_rfl) (by kernel_rfl) (by kernel_rfl) rfl rfl rfl (by rw [hsp7]; rfl) rfl (by decide) (Pu_convBS (r:=0) rfl Tryz.underlying36 Tryz.underlying5 Tryz.underlying9 rfl rfl hed) (AH_takeT 18 rfl (by kernel_rfl) (by kernel_rfl) (by kernel_rfl) rfl rfl rfl (by rw [hsp7]; rfl) rfl (by decide) (Pm9 rfl rfl) (AH_takeT 19 rfl (by kernel_rfl) (by kernel_rfl) (by kernel_rfl) rfl rfl rfl (by rw [hsp7]; rfl) rfl (by decide) (Pm9 rfl rfl) (AH_takeT 20 rfl (by kernel_rfl) (by kernel_rfl) (by kernel_rfl) rfl rfl rfl (by rw [hsp7]; rfl) rfl (by decide) (Pi9 (r:=0) rfl Tryz.runUnderlying27 Tryz.sizeOf59 rfl rfl rfl hB (by omega)) (AH_takeT 21 rfl (by kernel_rfl) (by kernel_rfl) (by kernel_rfl) rfl rfl rfl (by rw [hsp7]; rfl) rfl (by decide) (Pu_fieldAddrE (off:=32) rfl rfl (by kernel_rfl)) (AH_takeT 22 rfl (by kernel_rfl) (by kernel_rfl) (by kernel_rfl) rfl rfl rfl (by rw [hsp7]; rfl) rfl (by decide) (Py9 (r:=0) rfl Tryz.isAgg36 rfl rfl hB (eb_data (k:=y) ho)) (AH_takeT 23 rfl (by kernel_rfl) (by kernel_rfl) (by kernel_rfl) rfl rfl rfl (by rw [hsp7]; rfl) rfl (by decide) (Pu_convBS (r:=0) rfl Tryz.underlying36 Tryz.underlying5 Tryz.underlying9 rfl rfl hod) (AH_takeT 24 rfl (by kernel_rfl) (by kernel_rfl) (by kernel_rfl) rfl rfl rfl (by rw [hsp7]; rfl) rfl (by decide) (Pn9 rfl rfl rfl (run_strNe _ _ _ _ _)) (T9 25 rfl rfl (Pu_pickT rfl rfl hsp7 rfl) (Ad9 (by kernel_rfl) (X9 ?_))))))))))))))))))))))))))))
    refine C9 rfl (fun hc44=>?_) (fun hc44=>?_)
    ·
     refine Q9 (R9 (G9 rfl rfl (N9 (X9 ?_))))
     refine W_ret (X_block_ret (X_then_ret (X_then_ret (X_block_ret (X_block_ret (X_then_ret (X_then_ret (X_block_ret (X_then_ret ?_)))))))))
     exact Xq9 [] (Ps:=[]) (res1 Tryz.results42 rfl) rfl (by decide) ⟨rfl,_,rfl,fun h=>by cases h⟩
    ·
     refine K9 (X_block (X9 ?_))
     refine R9 (M9 rfl rfl (L9 rfl (Pn9 rfl rfl rfl (run_add _ _ _ _ _ (by omega))) (G9 rfl rfl (N9 ?_))))
     exact Xr9 (y + 1) ⟨by omega,crs_in hyc ho (fun hk=>by simpa using hc44)⟩ (by omega) (a9 rfl) ⟨rfl,trivial⟩
   ·
    refine W_draw (N:=26) (by kernel_rfl) rfl [(0,_)] ⟨rfl,trivial⟩ ?_
    refine (T9 0 rfl rfl (Pm9 rfl rfl) (T9 1 rfl rfl (Pm9 rfl rfl) (T9 2 rfl rfl (Pi9 (r:=0) rfl Tryz.runUnderlying27 Tryz.sizeOf59 rfl rfl rfl hA (by omega)) (T9 3 rfl rfl (Pu_fieldAddrE (off:=0) rfl rfl (by kernel_rfl)) (T9 4 rfl rfl (Pz9 (r:=0) rfl Tryz.isAgg29 Tryz.sizeOf29 rfl rfl hA ((bs_length _).trans e.1.len) (by decide) (eb_key (k:=x) he)) (T9 5 rfl rfl (Pm9 rfl rfl) (T9 6 rfl rfl (Pm9 rfl rfl) (T9 7 rfl rfl (Pi9 (r:=0) rfl Tryz.runUnderlying27 Tryz.sizeOf59 rfl rfl rfl hB (by omega)) (T9 8 rfl rfl (Pu_fieldAddrE (off:=0) rfl rfl (by kernel_rfl)) (T9 9 rfl rfl (Pz9 (r:=0) rfl Tryz.isAgg29 Tryz.sizeOf29 rfl rfl hB ((bs_length _).trans o.1.len) (by decide) (eb_key (k:=y) ho)) (T9 10 rfl rfl (Pn9 rfl rfl rfl (run_idEq _ _ e.1.len o.1.len _ _)) (T9 11 rfl rfl (Pm9 rfl rfl) (AH_takeF 12 rfl (by kernel_rfl) (by kernel_rfl) (by kernel_rfl) rfl rfl rfl (by rw [hsp7]; rfl) rfl (by decide) (AH_takeF 13 rfl (by kernel_rfl) (by kernel_rfl) (by kernel_rfl) rfl rfl rfl (by rw [hsp7]; rfl) rfl (by decide) (AH_takeF 14 rfl (by kernel_rfl) (by kernel_rfl) (by kernel_rfl) rfl rfl rfl (by rw [hsp7]; rfl) rfl (by decide) (AH_takeF 15 rfl (by kernel_rfl) (by kernel_rfl) (by kernel_rfl) rfl rfl rfl (by rw [hsp7]; rfl) rfl (by decide) (AH_takeF 16 rfl (by kernel_rfl) (by kernel_rfl) (by kernel_rfl) rfl rfl rfl (by rw [hsp7]; rfl) rfl (by decide) (AH_takeF 17 rfl (by kernel_rfl) (by kernel_rfl) (by kernel_rfl) rfl rfl rfl (by rw [hsp7]; rfl) rfl (by decide) (AH_takeF 18 rfl (by kernel_rfl) (by kernel_rfl) (by kernel_rfl) rfl rfl rfl (by rw [hsp7]; rfl) rfl (by decide) (AH_takeF 19 rfl (by kernel_rfl) (by kernel_rfl) (by kernel_rfl) rfl rfl rfl (by rw [hsp7]; rfl) rfl (by decide) (AH_takeF 20 rfl (by kernel_rfl) (by kernel_rfl) (by kernel_rfl) rfl rfl rfl (by rw [hsp7]; rfl) rfl (by decide) (AH_takeF 21 rfl (by kernel_rfl) (by kernel_rfl) (by kernel_rfl) rfl rfl rfl (by rw [hsp7]; rfl) rfl (by decide) (AH_takeF 22 rfl (by kernel_rfl) (by kernel_rfl) (by kernel_rfl) rfl rfl rfl (by rw [hsp7]; rfl) rfl (by decide) (AH_takeF 23 rfl (by kernel_rfl) (by kernel_rfl) (by kernel_rfl) rfl rfl rfl (by rw [hsp7]; rfl) rfl (by decide) (AH_takeF 24 rfl (by kernel_rfl) (by kernel_rfl) (by kernel_rfl) rfl rfl rfl (by rw [hsp7]; rfl) rfl (by decide) (T9 25 rfl rfl (Pu_pickF rfl rfl hsp7 rfl) (Ad9 (by kernel_rfl) (X9 ?_))))))))))))))))))))))))))))
    refine W_false rfl (rfl) ?_
    refine K9 (X_block (X9 ?_))
    refine R9 (M9 rfl rfl (L9 rfl (Pn9 rfl rfl rfl (run_add _ _ _ _ _ (by omega))) (G9 rfl rfl (N9 ?_))))
    exact Xr9 (y + 1) ⟨by omega,crs_in hyc ho (fun hk=>by rw [hk] at hsp7; simp at hsp7)⟩ (by omega) (a9 rfl) ⟨rfl,trivial⟩
  ·
   have hge2:os.length≤y:=by have:=of_decide_eq_false hc16; omega
   rw [List.take_of_length_le hge2] at hyc
   refine W_exit (X_then_exit (X_then_exit (X_block_exit (X_block (X9 ?_)))))
   refine R9 (M9 rfl rfl (L9 rfl (Pn9 rfl rfl rfl (run_add _ _ _ _ _ (by omega))) (G9 rfl rfl (N9 ?_))))
   exact Xr9 (x + 1) ⟨by omega,crs_out hxc he hyc⟩ (by omega) (a9 rfl) ⟨rfl,trivial⟩
 ·
  have hge:es.length≤x:=by have:=of_decide_eq_false hc10; omega
  rw [List.take_of_length_le hge] at hxc
  refine W_exit (X_then_exit (X_then_exit (X_block_exit (X9 ?_))))
  refine Q9 (R9 (G9 rfl rfl (N9 (X9 ?_))))
  refine W_ret ?_
  exact Xq9 [] (Ps:=[]) (res1 Tryz.results42 rfl) rfl (by decide) ⟨rfl,_,rfl,fun _=>hxc⟩
theorem meets_spec (va vb:Value) (xa xb:List F3) (hba:buildE xa=0) (hbb:buildE xb=0) (hlna:xa.length≤1000000000000) (hlnb:xb.length≤1000000000000) (hsha:∀ x ∈ xa,x.1.length≤900000∧x.2.2.length≤100000000000) (hshb:∀ x ∈ xb,x.1.length≤900000∧x.2.2.length≤100000000000) (F:HP) (hA:∀ h,F h→rdIt va xa h) (hDA:∀ h,F h→datI xa h) (hB:∀ h,F h→rdIt vb xb h) (hDB:∀ h,F h→datI xb h):CallsS Tryz.prog 18 #[va,vb] F [] (fun r Ps=>Ps=[]∧∃ m:Bool,r = .bool m∧(m=false→NoMeet xa xb)):=by
 refine callsS_enter Tryz.func18 rfl Tryz.ntmps18 (by simp) (fun E=>?_)
 refine Q9 (R9 (G9 rfl rfl (N9 (X9 (Q9 (R9 (M9 rfl rfl (Lc9 rfl rfl (by decide) (Oc9 200 [0] [] rfl Tryz.call21 rfl rfl rfl (by decide) (by decide) (refBuild_spec va xa hlna hsha _ (rs9 0 rfl hA) (datI_star 0 rfl hDA)) (fun v11 Ps11 hR11=>?_))))))))))
 obtain ⟨wa,ida,ma,la,rfl,rfl,hida,hvoa,hga,_⟩:=hR11
 skip
 have hga2:=(hga hba).1
 refine (M9 rfl rfl (L9 rfl (Pe9 rfl rfl rfl) (L9 rfl (Pe9 rfl rfl rfl) (Lc9 rfl rfl (by decide) (OpT_alloc (r:=201) (cs:=(refC (.slice none 0 0) zeroId false)) rfl (zero_run (by kernel_rfl:(Tryz.prog.info? 50).bind (·.zero)=some (.agg (refC (.slice none 0 0) zeroId false).toArray))) rfl (fun g201=>(Lc09 rfl rfl (OpT_storeAll (r:=201) rfl Tryz.sizeOf50 rfl rfl rfl (refC_len zeroId_length) (refC_len hida) (refC_one hvoa) ?_))))))))
 refine (G9 rfl rfl (N9 (X9 ?_)))
 refine Q9 ?_
 refine W_openTree 200 2000 rfl (fun es hes=>?_)
 rcases Bool.eq_false_or_eq_true (ma) with hsp2 | hsp2
 ·
  subst hsp2
  refine R9 (M9 rfl rfl (Lc9 rfl rfl (by decide) (Oc9 2100 [0,201,2000,2001] [] rfl Tryz.call21 rfl rfl rfl (by decide) (by decide) (refBuild_spec vb xb hlnb hshb _ (rs9 0 rfl hB) (datI_star 0 rfl hDB)) (fun v16 Ps16 hR16=>?_))))
  obtain ⟨wb,idb,mb,lb,rfl,rfl,hidb,hvob,hgb,_⟩:=hR16
  skip
  have hgb2:=(hgb hbb).1
  refine (M9 rfl rfl (L9 rfl (Pe9 rfl rfl rfl) (L9 rfl (Pe9 rfl rfl rfl) (Lc9 rfl rfl (by decide) (OpT_alloc (r:=2101) (cs:=(refC (.slice none 0 0) zeroId false)) rfl (zero_run (by kernel_rfl:(Tryz.prog.info? 50).bind (·.zero)=some (.agg (refC (.slice none 0 0) zeroId false).toArray))) rfl (fun g2101=>(Lc09 rfl rfl (OpT_storeAll (r:=2101) rfl Tryz.sizeOf50 rfl rfl rfl (refC_len zeroId_length) (refC_len hidb) (refC_one hvob) ?_))))))))
  refine (G9 rfl rfl (N9 (X9 ?_)))
  refine Q9 ?_
  refine W_openTree 2100 3000 rfl (fun os hos=>?_)
  rcases Bool.eq_false_or_eq_true (mb) with hsp3 | hsp3
  ·
   subst hsp3
   refine R9 (L9 rfl (F9 33 rfl rfl) (L9 rfl (Pb9 (r:=201) rfl Tryz.isAgg4 rfl rfl (refC_met hida)) (M9 rfl rfl (WL_gF rfl rfl rfl rfl rfl (by decide) (WL_gF rfl rfl rfl rfl rfl (by decide) (L9 rfl (Pu_pickT rfl rfl rfl rfl) (M9 rfl rfl (WL_gF rfl rfl rfl rfl rfl (by decide) (WL_gF rfl rfl rfl rfl rfl (by decide) (WL_gF rfl rfl rfl rfl rfl (by decide) (WL_gF rfl rfl rfl rfl rfl (by decide) (WL_gF rfl rfl rfl rfl rfl (by decide) (L9 rfl (Pu_pickT rfl rfl rfl rfl) (G9 rfl rfl (N9 (X9 ?_))))))))))))))))
   refine W_ret ?_
   exact Xq9 [] (Ps:=[]) (res1 Tryz.results18 rfl) rfl (by decide) ⟨rfl,true,rfl,fun h=>by cases h⟩
  ·
   subst hsp3
   refine R9 (L9 rfl (F9 33 rfl rfl) (L9 rfl (Pb9 (r:=201) rfl Tryz.isAgg4 rfl rfl (refC_met hida)) (M9 rfl rfl (WL_gF rfl rfl rfl rfl rfl (by decide) (WL_gF rfl rfl rfl rfl rfl (by decide) (L9 rfl (Pu_pickT rfl rfl rfl rfl) (M9 rfl rfl (WL_gF rfl rfl rfl rfl rfl (by decide) (WL_gF rfl rfl rfl rfl rfl (by decide) (WL_gF rfl rfl rfl rfl rfl (by decide) (WL_gF rfl rfl rfl rfl rfl (by decide) (WL_gF rfl rfl rfl rfl rfl (by decide) (L9 rfl (Pu_pickT rfl rfl rfl rfl) (G9 rfl rfl (N9 (X9 ?_))))))))))))))))
   refine W_ret ?_
   exact Xq9 [] (Ps:=[]) (res1 Tryz.results18 rfl) rfl (by decide) ⟨rfl,true,rfl,fun h=>by cases h⟩
 ·
  subst hsp2
  refine R9 (M9 rfl rfl (Lc9 rfl rfl (by decide) (Oc9 2100 [0,201,2000,2001] [] rfl Tryz.call21 rfl rfl rfl (by decide) (by decide) (refBuild_spec vb xb hlnb hshb _ (rs9 0 rfl hB) (datI_star 0 rfl hDB)) (fun v16 Ps16 hR16=>?_))))
  obtain ⟨wb,idb,mb,lb,rfl,rfl,hidb,hvob,hgb,_⟩:=hR16
  skip
  have hgb2:=(hgb hbb).1
  refine (M9 rfl rfl (L9 rfl (Pe9 rfl rfl rfl) (L9 rfl (Pe9 rfl rfl rfl) (Lc9 rfl rfl (by decide) (OpT_alloc (r:=2101) (cs:=(refC (.slice none 0 0) zeroId false)) rfl (zero_run (by kernel_rfl:(Tryz.prog.info? 50).bind (·.zero)=some (.agg (refC (.slice none 0 0) zeroId false).toArray))) rfl (fun g2101=>(Lc09 rfl rfl (OpT_storeAll (r:=2101) rfl Tryz.sizeOf50 rfl rfl rfl (refC_len zeroId_length) (refC_len hidb) (refC_one hvob) ?_))))))))
  refine (G9 rfl rfl (N9 (X9 ?_)))
  refine Q9 ?_
  refine W_openTree 2100 3000 rfl (fun os hos=>?_)
  rcases Bool.eq_false_or_eq_true (mb) with hsp3 | hsp3
  ·
   subst hsp3
   refine R9 (L9 rfl (F9 33 rfl rfl) (L9 rfl (Pb9 (r:=201) rfl Tryz.isAgg4 rfl rfl (refC_met hida)) (M9 rfl rfl (WL_gPT rfl rfl rfl rfl rfl (by decide) (F9 33 rfl rfl) (WL_gPT rfl rfl rfl rfl rfl (by decide) (Pb9 (r:=2101) rfl Tryz.isAgg4 rfl rfl (refC_met hidb)) (L9 rfl (Pu_pickF rfl rfl rfl rfl) (M9 rfl rfl (WL_gF rfl rfl rfl rfl rfl (by decide) (WL_gF rfl rfl rfl rfl rfl (by decide) (WL_gF rfl rfl rfl rfl rfl (by decide) (WL_gF rfl rfl rfl rfl rfl (by decide) (WL_gF rfl rfl rfl rfl rfl (by decide) (L9 rfl (Pu_pickT rfl rfl rfl rfl) (G9 rfl rfl (N9 (X9 ?_))))))))))))))))
   refine W_ret ?_
   exact Xq9 [] (Ps:=[]) (res1 Tryz.results18 rfl) rfl (by decide) ⟨rfl,true,rfl,fun h=>by cases h⟩
  ·
   subst hsp3
   refine R9 (L9 rfl (F9 33 rfl rfl) (L9 rfl (Pb9 (r:=201) rfl Tryz.isAgg4 rfl rfl (refC_met hida)) (M9 rfl rfl (WL_gPT rfl rfl rfl rfl rfl (by decide) (F9 33 rfl rfl) (WL_gPT rfl rfl rfl rfl rfl (by decide) (Pb9 (r:=2101) rfl Tryz.isAgg4 rfl rfl (refC_met hidb)) (L9 rfl (Pu_pickF rfl rfl rfl rfl) (M9 rfl rfl (WL_gPT rfl rfl rfl rfl rfl (by decide) (F9 0 rfl rfl) (WL_gPT rfl rfl rfl rfl rfl (by decide) (Pb9 (r:=201) rfl Tryz.isAgg27 rfl rfl rfl) (WL_gPT rfl rfl rfl rfl rfl (by decide) (F9 0 rfl rfl) (WL_gPT rfl rfl rfl rfl rfl (by decide) (Pb9 (r:=2101) rfl Tryz.isAgg27 rfl rfl rfl) (WL_gT rfl rfl rfl rfl rfl (by decide) (Oc9 3100 [0,201,2000,2001,2101,3000,3001] [] rfl Tryz.call42 rfl rfl rfl (by decide) (by decide) (met_spec wa wb es os (ref_len hba hga2 hes) (ref_len hbb hgb2 hos) _ (rs9 2 rfl (fun _ h=>rp9 h)) (ds9 3 rfl (fun _ h=>h)) (rs9 5 rfl (fun _ h=>rp9 h)) (ds9 6 rfl (fun _ h=>h))) (fun v30 Ps30 hR30=>?_))))))))))))))
   obtain ⟨rfl,mm,rfl,hmm⟩:=hR30
   refine (L9 rfl (Pu_pickF rfl rfl rfl rfl) (G9 rfl rfl (N9 (X9 ?_))))
   refine W_ret ?_
   exact Xq9 [] (Ps:=[]) (res1 Tryz.results18 rfl) rfl (by decide) ⟨rfl,mm,rfl,fun h=>noMeet hga2 hgb2 hes hos (hmm h)⟩
end Go.Proofs.YthkdkmaacjpneaaGreatDoor
