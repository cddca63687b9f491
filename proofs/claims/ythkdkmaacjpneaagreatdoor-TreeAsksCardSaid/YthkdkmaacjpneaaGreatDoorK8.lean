/- Texts of this proof, one behind the other: TreeRl, TreeLn, TreeBH, Open, Open2, Open3, Open4, OpenF, TreeBI, LaidN. -/
import Derived.Test.YthkdkmaacjpneaaGreatDoorK7
import Derived.Test.YthkdkmaacjpneaaGreatDoorK6
import Derived.Test.YthkdkmaacjpneaaGreatDoorK2
import Derived.Test.YthkdkmaacjpneaaGreatDoorK1
import Derived.ProofKit
import Derived.Deep.Slices
import Derived.Deep.Fields
import Derived.ChangeOld
import Derived.OpenShut
import Derived.SizedLaws
import Derived.ChangeMaps5
import Derived.Test.YthkdkmaacjpneaaGreatDoorRows
import Derived.Test.YthkdkmaacjpneaaGreatDoorK3
import Derived.Lib.LaidU8
import Derived.Shelf.Vars
import Derived.MakeChecks
set_option linter.unusedVariables false
set_option linter.unusedSimpArgs false
set_option linter.unusedSectionVars false
namespace Go.Proofs.YthkdkmaacjpneaaGreatDoor
open Go.RowKit
def subP (n : List UInt8) : List PN → List PN
  | [] => []
  | p :: ps => match p.1 with
    | m :: k :: q => if m = n then (k :: q,p.2) :: subP n ps else subP n ps
    | _ => subP n ps
theorem subP_app (n : List UInt8) : ∀ a b : List PN,subP n (a ++ b) = subP n a ++ subP n b
  | [],b => rfl
  | p :: a,b => by
    rw [List.cons_append,subP,subP]
    split
    · split
      · rw [subP_app n a b]; rfl
      · exact subP_app n a b
    · exact subP_app n a b
theorem subP_one (n m : List UInt8) (d : List UInt8) : subP n [([m],d)] = []:=rfl
theorem subP_deep (n : List UInt8) (k : List UInt8) (q : List (List UInt8)) (d : List UInt8) : subP n [(n :: k :: q,d)] = [(k :: q,d)]:=by simp [subP]
theorem subP_oth {n m : List UInt8} (h : m ≠ n) (k : List UInt8) (q : List (List UInt8)) (d : List UInt8) : subP n [(m :: k :: q,d)] = []:=by simp [subP,h]
theorem subP_mem {n : List UInt8} {r : PN} : ∀ {ps : List PN},r ∈ subP n ps → ∃ k q,r.1 = k :: q ∧ (n :: k :: q,r.2) ∈ ps
  | [],h => by cases h
  | p :: ps,h => by
    rw [subP] at h
    split at h
    · rename_i m k q he
      split at h
      · rename_i hm
        rcases List.mem_cons.1 h with rfl | h
        · refine ⟨k,q,rfl,?_⟩
          rw [← hm,← he]
          exact List.mem_cons_self
        · obtain ⟨k',q',h1,h2⟩:=subP_mem h
          exact ⟨k',q',h1,List.mem_cons_of_mem _ h2⟩
      · obtain ⟨k',q',h1,h2⟩:=subP_mem h
        exact ⟨k',q',h1,List.mem_cons_of_mem _ h2⟩
    · obtain ⟨k',q',h1,h2⟩:=subP_mem h
      exact ⟨k',q',h1,List.mem_cons_of_mem _ h2⟩
theorem mem_subP {n k : List UInt8} {q : List (List UInt8)} {d : List UInt8} : ∀ {ps : List PN},(n :: k :: q,d) ∈ ps → (k :: q,d) ∈ subP n ps
  | [],h => by cases h
  | p :: ps,h => by
    rcases List.mem_cons.1 h with rfl | h
    · simp [subP]
    · have:=mem_subP h
      rw [subP]
      split
      · split
        · exact List.mem_cons_of_mem _ this
        · exact this
      · exact this
abbrev HD:=List (List UInt8 × HT)
def oneP (p : PN) : Bool:=p.1.length == 1
mutual
def Rel : HT → List PN → Prop
  | .mk _ _ _ dirs files,ps => (∀ p ∈ ps,p.1 ≠ []) ∧ files.map (fun f => (([f.1],f.2.2) : PN)) = ps.filter oneP ∧ (∀ n,subP n ps ≠ [] ↔ n ∈ dirs.map (·.1)) ∧ (files.map (·.1) ++ dirs.map (·.1)).Nodup ∧ dirs.length + files.length ≤ ps.length ∧ RelL dirs ps
def RelL : List (List UInt8 × HT) → List PN → Prop
  | [],_ => True
  | d :: ds,ps => Rel d.2 (subP d.1 ps) ∧ RelL ds ps
end
theorem Rel_mk {g gd gf : Nat} {dirs : List (List UInt8 × HT)} {files : List F3} {ps : List PN} : Rel (.mk g gd gf dirs files) ps ↔ (∀ p ∈ ps,p.1 ≠ []) ∧ files.map (fun f => (([f.1],f.2.2) : PN)) = ps.filter oneP ∧ (∀ n,subP n ps ≠ [] ↔ n ∈ dirs.map (·.1)) ∧ (files.map (·.1) ++ dirs.map (·.1)).Nodup ∧ dirs.length + files.length ≤ ps.length ∧ RelL dirs ps:=by rw [Rel]
theorem RelL_iff {ps : List PN} : ∀ {ds : List (List UInt8 × HT)},RelL ds ps ↔ ∀ d ∈ ds,Rel d.2 (subP d.1 ps)
  | [] => by simp [RelL]
  | d :: ds => by rw [RelL,RelL_iff]; simp
theorem Rel_nil (g gd gf : Nat) : Rel (.mk g gd gf [] []) []:=Rel_mk.2 ⟨by simp,rfl,by simp [subP],by simp,by simp,RelL_iff.2 (by simp)⟩
theorem nodup_end {α : Type} {a b : List α} {n : α} (h : (a ++ b).Nodup) (h1 : n ∉ a) (h2 : n ∉ b) : ((a ++ [n]) ++ b).Nodup:=by
  rw [List.append_assoc]
  have e : (a ++ ([n] ++ b)).Perm (n :: (a ++ b)):=List.perm_middle
  rw [e.nodup_iff,List.nodup_cons]
  exact ⟨by simp [h1,h2],h⟩
theorem Rel_put : ∀ (p : List (List UInt8)) (v : Value) (d : List UInt8) (T T' : HT),canPut p T = true → Put p v d T T' → ∀ ps,Rel T ps → Rel T' (ps ++ [(p,d)])
  | [],_,_,_,_,_,h,_,_ => by simp [Put] at h
  | [n],v,d,.mk g gd gf dirs files,T',hc,hp,ps,hr => by
    simp only [Put] at hp
    subst hp
    simp only [canPut,Bool.and_eq_true,Option.isNone_iff_eq_none] at hc
    rw [Rel_mk] at hr ⊢
    obtain ⟨h1,h2,h3,h4,h6,h5⟩:=hr
    have hs : ∀ m,subP m (ps ++ [([n],d)]) = subP m ps:=fun m => by rw [subP_app,subP_one,List.append_nil]
    refine ⟨fun p hp => ?_,?_,fun m => by rw [hs]; exact h3 m,?_,by simp only [List.length_append,List.length_singleton]; omega,RelL_iff.2 fun x hx => by rw [hs]; exact RelL_iff.1 h5 x hx⟩
    · rcases List.mem_append.1 hp with hp | hp
      · exact h1 p hp
      · rw [List.mem_singleton.1 hp]; simp
    · rw [List.map_append,h2,List.filter_append]
      simp [oneP]
    · rw [List.map_append]
      exact nodup_end h4 (lookA_none.1 hc.1) (lookA_none.1 hc.2)
  | n :: k :: p,v,d,.mk g gd gf dirs files,T',hc,hp,ps,hr => by
    simp only [Put] at hp
    rw [canPut,Bool.and_eq_true,Option.isNone_iff_eq_none] at hc
    obtain ⟨hc1,hc2⟩:=hc
    rw [Rel_mk] at hr
    obtain ⟨h1,h2,h3,h4,h6,h5⟩:=hr
    have hne : ∀ q ∈ ps ++ [((n :: k :: p,d) : PN)],q.1 ≠ []:=fun q hq => by
      rcases List.mem_append.1 hq with hq | hq
      · exact h1 q hq
      · rw [List.mem_singleton.1 hq]; simp
    have hfl : files.map (fun f => (([f.1],f.2.2) : PN)) = (ps ++ [((n :: k :: p,d) : PN)]).filter oneP:=by
      rw [h2,List.filter_append]
      simp [oneP]
    have hsn : subP n (ps ++ [((n :: k :: p,d) : PN)]) = subP n ps ++ [(k :: p,d)]:=by rw [subP_app,subP_deep]
    have hso : ∀ m,m ≠ n → subP m (ps ++ [((n :: k :: p,d) : PN)]) = subP m ps:=fun m hm => by rw [subP_app,subP_oth (fun h => hm h.symm),List.append_nil]
    rcases hp with ⟨a,c,t,t',rfl,ha,hpt,rfl⟩ | ⟨hno,g1,gd1,gf1,t',hpt,rfl⟩
    · have hat : lookA n (a ++ (n,t) :: c) = some t:=by simp [lookA_app,lookA,ha]
      rw [hat] at hc2
      have hnm : (a ++ (n,t') :: c).map (·.1) = (a ++ (n,t) :: c).map (·.1):=by simp
      rw [Rel_mk,hnm]
      have hnd : ((a ++ (n,t) :: c).map (·.1)).Nodup:=(List.nodup_append.1 h4).2.1
      have hnc : n ∉ c.map (·.1):=by
        rw [List.map_append,List.nodup_append] at hnd
        have:=hnd.2.1
        rw [List.map_cons,List.nodup_cons] at this
        exact this.1
      refine ⟨hne,hfl,fun m => ?_,h4,by simp only [List.length_append,List.length_cons,List.length_nil] at h6 ⊢; omega,RelL_iff.2 fun x hx => ?_⟩
      · by_cases hm : m = n
        · subst hm
          rw [hsn]
          simp
        · rw [hso m hm]; exact h3 m
      · have h5':=RelL_iff.1 h5
        rcases List.mem_append.1 hx with hx | hx
        · have hxn : x.1 ≠ n:=fun h => lookA_none.1 ha (by rw [← h]; exact List.mem_map_of_mem hx)
          rw [hso _ hxn]
          exact h5' x (by simp [hx])
        · rcases List.mem_cons.1 hx with rfl | hx
          · show Rel t' (subP n _)
            rw [hsn]
            exact Rel_put (k :: p) v d t t' hc2 hpt _ (h5' (n,t) (by simp))
          · have hxn : x.1 ≠ n:=fun h => hnc (by rw [← h]; exact List.mem_map_of_mem hx)
            rw [hso _ hxn]
            exact h5' x (by simp [hx])
    · have hnd:=lookA_none.1 hno
      have hs0 : subP n ps = []:=by
        cases hs : subP n ps with
        | nil => rfl
        | cons x l => exact absurd ((h3 n).1 (by rw [hs]; simp)) hnd
      rw [Rel_mk]
      refine ⟨hne,hfl,fun m => ?_,?_,by simp only [List.length_append,List.length_cons,List.length_nil]; omega,RelL_iff.2 fun x hx => ?_⟩
      · by_cases hm : m = n
        · subst hm
          rw [hsn]
          simp
        · rw [hso m hm,h3 m]
          simp [hm]
      · rw [List.map_append,← List.append_assoc]
        have e : ((files.map (·.1) ++ dirs.map (·.1)) ++ [n]).Perm (n :: (files.map (·.1) ++ dirs.map (·.1))):=by
          have:=List.perm_middle (a:=n) (l₁:=files.map (·.1) ++ dirs.map (·.1)) (l₂:=[])
          simpa using this
        show ((files.map (·.1) ++ dirs.map (·.1)) ++ [n]).Nodup
        rw [e.nodup_iff,List.nodup_cons]
        refine ⟨fun h => ?_,h4⟩
        rcases List.mem_append.1 h with h | h
        · exact lookA_none.1 hc1 h
        · exact hnd h
      · rcases List.mem_append.1 hx with hx | hx
        · have hxn : x.1 ≠ n:=fun h => hnd (by rw [← h]; exact List.mem_map_of_mem hx)
          rw [hso _ hxn]
          exact RelL_iff.1 h5 x hx
        · rw [List.mem_singleton.1 hx]
          show Rel t' (subP n _)
          rw [hsn,hs0]
          exact Rel_put (k :: p) v d _ t' (canPut_nil _ (by simp) _ _ _) hpt [] (Rel_nil _ _ _)
theorem Filled.rel {xs : List F3} {T : HT} (h : Filled xs T) : Rel T (partsN xs):=by
  induction h with
  | nil g gd gf => exact Rel_nil _ _ _
  | snoc l x T T' h1 h2 h3 ih =>
    have e : partsN (l ++ [x]) = partsN l ++ [(pathOf x,x.2.2)]:=by simp [partsN]
    rw [e]
    exact Rel_put _ _ _ _ _ h2 h3 _ ih
def filP (u : List UInt8) (ps : List PN) : List PN:=ps.filter fun p => decide (p.1 = [u])
theorem scan_is (u : List UInt8) : ∀ (ps : List PN),(∀ p ∈ ps,p.1 ≠ []) → ∀ (z : List UInt8) (bs : List (List UInt8)) (ss : List PN),ps.foldl (scan1 u) (z,bs,ss) = ((filP u ps).foldl (fun _ p => idF 1 p.2) z,bs ++ ((filP u ps).map fun p => blocksF 1 p.2).flatten,ss ++ subP u ps)
  | [],_,z,bs,ss => by simp [filP,subP]
  | p :: ps,hne,z,bs,ss => by
    have ih:=scan_is u ps (fun q hq => hne q (by simp [hq]))
    obtain ⟨l,d⟩:=p
    have h0:=hne (l,d) (by simp)
    rw [List.foldl_cons]
    match l,h0 with
    | [m],_ =>
      by_cases hm : m = u
      · subst hm
        have e1 : scan1 m (z,bs,ss) ([m],d) = (idF 1 d,bs ++ blocksF 1 d,ss):=by simp [scan1,headP]
        rw [e1,ih]
        simp [filP,subP]
      · have e1 : scan1 u (z,bs,ss) ([m],d) = (z,bs,ss):=by simp [scan1,headP,hm]
        rw [e1,ih]
        simp [filP,subP,hm]
    | m :: k :: q,_ =>
      by_cases hm : m = u
      · subst hm
        have e1 : scan1 m (z,bs,ss) (m :: k :: q,d) = (z,bs,ss ++ [(k :: q,d)]):=by simp [scan1,headP]
        rw [e1,ih]
        simp [filP,subP]
      · have e1 : scan1 u (z,bs,ss) (m :: k :: q,d) = (z,bs,ss):=by simp [scan1,headP,hm]
        rw [e1,ih]
        simp [filP,subP,hm]
theorem scanP_is {u : List UInt8} {ps : List PN} (hne : ∀ p ∈ ps,p.1 ≠ []) : scanP u ps = ((filP u ps).foldl (fun _ p => idF 1 p.2) zeroId,((filP u ps).map fun p => blocksF 1 p.2).flatten,subP u ps):=by
  unfold scanP
  rw [scan_is u ps hne]
  simp
theorem mem_insU {s x : List UInt8} : ∀ {l : List (List UInt8)},x = s ∨ x ∈ l → x ∈ insU s l
  | [],h => by simpa [insU] using h
  | y :: r,h => by
    rw [insU]
    split
    · rcases h with h | h
      · exact List.mem_cons_of_mem _ (mem_insU (.inl h))
      · rcases List.mem_cons.1 h with rfl | h
        · exact List.mem_cons_self
        · exact List.mem_cons_of_mem _ (mem_insU (.inr h))
    · split
      · rename_i h1 h2
        rcases h with h | h
        · rw [h,← h2]; exact List.mem_cons_self
        · exact h
      · rcases h with h | h
        · rw [h]; exact List.mem_cons_self
        · exact List.mem_cons_of_mem _ h
abbrev SortU (l : List (List UInt8)) : Prop:=l.Pairwise fun a b => Op.bytesLess a b = true
theorem insU_sort {s : List UInt8} : ∀ {l : List (List UInt8)},SortU l → SortU (insU s l)
  | [],_ => List.pairwise_singleton _ _
  | x :: l,h => by
    have h1:=(List.pairwise_cons.1 h).1
    rw [insU]
    split
    · rename_i hl
      refine List.pairwise_cons.2 ⟨fun y hy => ?_,insU_sort (List.pairwise_cons.1 h).2⟩
      rcases insU_mem hy with rfl | hy
      · exact hl
      · exact h1 y hy
    · split
      · exact h
      · rename_i hl hne
        have hex : Op.bytesLess s x = true:=less_of_not hl hne
        refine List.pairwise_cons.2 ⟨fun y hy => ?_,h⟩
        rcases List.mem_cons.1 hy with rfl | hy
        · exact hex
        · exact less_trans _ _ _ hex (h1 y hy)
theorem names_mem : ∀ (ps : List PN) (l : List (List UInt8)) (u : List UInt8),u ∈ ps.foldl (fun l p => insU (headP p) l) l ↔ u ∈ l ∨ ∃ p ∈ ps,headP p = u
  | [],l,u => by simp
  | p :: ps,l,u => by
    rw [List.foldl_cons,names_mem ps]
    constructor
    · rintro (h | ⟨q,hq,h⟩)
      · rcases insU_mem h with h | h
        · exact .inr ⟨p,by simp,h.symm⟩
        · exact .inl h
      · exact .inr ⟨q,by simp [hq],h⟩
    · rintro (h | ⟨q,hq,h⟩)
      · exact .inl (mem_insU (.inr h))
      · rcases List.mem_cons.1 hq with rfl | hq
        · exact .inl (mem_insU (.inl h.symm))
        · exact .inr ⟨q,hq,h⟩
theorem namesP_mem {ps : List PN} {u : List UInt8} : u ∈ namesP ps ↔ ∃ p ∈ ps,headP p = u:=by unfold namesP; rw [names_mem]; simp
theorem names_sort : ∀ (ps : List PN) (l : List (List UInt8)),SortU l → SortU (ps.foldl (fun l p => insU (headP p) l) l)
  | [],l,h => h
  | p :: ps,l,h => by rw [List.foldl_cons]; exact names_sort ps _ (insU_sort h)
theorem namesP_sort (ps : List PN) : SortU (namesP ps):=names_sort ps [] List.Pairwise.nil
theorem sortN_ext : ∀ {a b : List Ent},SortN a → SortN b → (∀ x,x ∈ a ↔ x ∈ b) → a = b
  | [],[],_,_,_ => rfl
  | [],y :: b,_,_,h => absurd ((h y).2 (by simp)) (by simp)
  | x :: a,[],_,_,h => absurd ((h x).1 (by simp)) (by simp)
  | x :: a,y :: b,ha,hb,h => by
    have ha1:=(List.pairwise_cons.1 ha).1
    have hb1:=(List.pairwise_cons.1 hb).1
    have hxy : x = y:=by
      rcases List.mem_cons.1 ((h x).1 (by simp)) with h1 | h1
      · exact h1
      · rcases List.mem_cons.1 ((h y).2 (by simp)) with h2 | h2
        · exact h2.symm
        · have h3:=less_trans _ _ _ (ha1 _ h2) (hb1 _ h1)
          rw [less_irr] at h3
          cases h3
    subst hxy
    have hna : x ∉ a:=fun hm => by have:=ha1 _ hm; rw [less_irr] at this; cases this
    have hnb : x ∉ b:=fun hm => by have:=hb1 _ hm; rw [less_irr] at this; cases this
    rw [sortN_ext (List.pairwise_cons.1 ha).2 (List.pairwise_cons.1 hb).2 fun z => ⟨fun hz => ?_,fun hz => ?_⟩]
    · rcases List.mem_cons.1 ((h z).1 (by simp [hz])) with rfl | h1
      · exact absurd hz hna
      · exact h1
    · rcases List.mem_cons.1 ((h z).2 (by simp [hz])) with rfl | h1
      · exact absurd hz hnb
      · exact h1
theorem rel_dir : ∀ (f : Nat) (T : HT) (ps : List PN),Rel T ps → (∀ p ∈ ps,p.1.length ≤ f + 1) → idT T = (dirI (f + 1) ps).1 ∧ ∀ b ∈ blocksT T,b ∈ (dirI (f + 1) ps).2:=by
  intro f
  induction f with
  | zero =>
    intro T ps hr hl
    obtain ⟨g,gd,gf,dirs,files⟩:=T
    have hd : dirs = []:=by
      rw [Rel_mk] at hr
      cases hdd : dirs with
      | nil => rfl
      | cons x l =>
        have:=(hr.2.2.1 x.1).2 (by rw [hdd]; simp)
        cases hs : subP x.1 ps with
        | nil => exact absurd hs this
        | cons r l2 =>
          obtain ⟨k,q,_,hm⟩:=subP_mem (show r ∈ subP x.1 ps by rw [hs]; simp)
          have:=hl _ hm
          simp at this
    subst hd
    exact rel_step 0 g gd gf [] files ps hr (fun x hx => absurd hx (by simp))
  | succ f ih =>
    intro T ps hr hl
    obtain ⟨g,gd,gf,dirs,files⟩:=T
    refine rel_step (f + 1) g gd gf dirs files ps hr fun x hx => ?_
    rw [Rel_mk] at hr
    refine ih x.2 _ (RelL_iff.1 hr.2.2.2.2.2 x hx) fun r hrm => ?_
    obtain ⟨k,q,h1,hm⟩:=subP_mem hrm
    have:=hl _ hm
    rw [h1]
    simp at this ⊢
    omega
where
  rel_step (f g gd gf : Nat) (dirs : List (List UInt8 × HT)) (files : List F3) (ps : List PN) (hr : Rel (.mk g gd gf dirs files) ps) (ih : ∀ x ∈ dirs,idT x.2 = (dirI f (subP x.1 ps)).1 ∧ ∀ b ∈ blocksT x.2,b ∈ (dirI f (subP x.1 ps)).2) : idT (.mk g gd gf dirs files) = (dirI (f + 1) ps).1 ∧ ∀ b ∈ blocksT (.mk g gd gf dirs files),b ∈ (dirI (f + 1) ps).2:=by
    rw [Rel_mk] at hr
    obtain ⟨h1,h2,h3,h4,h6,h5⟩:=hr
    have hfm : ∀ x ∈ files,([x.1],x.2.2) ∈ ps:=fun x hx => by
      have : (([x.1],x.2.2) : PN) ∈ files.map (fun f => (([f.1],f.2.2) : PN)):=List.mem_map_of_mem (f:=fun f => (([f.1],f.2.2) : PN)) hx
      rw [h2] at this
      exact (List.mem_filter.1 this).1
    have hnf:=(List.nodup_append.1 h4).1
    have hfil : ∀ x ∈ files,filP x.1 ps = [([x.1],x.2.2)]:=fun x hx => by
      have e : filP x.1 ps = (ps.filter oneP).filter fun p => decide (p.1 = [x.1]):=by
        rw [List.filter_filter]
        unfold filP
        congr 1
        funext p
        by_cases hp : p.1 = [x.1]
        · simp [hp,oneP]
        · simp [hp]
      rw [e,← h2,List.filter_map]
      have e2 : files.filter ((fun p : PN => decide (p.1 = [x.1])) ∘ fun f => (([f.1],f.2.2) : PN)) = [x]:=by
        clear e hfm h2 h4 h5 h6
        induction files with
        | nil => cases hx
        | cons y l ih2 =>
          rw [List.map_cons,List.nodup_cons] at hnf
          rcases List.mem_cons.1 hx with rfl | hx
          · have : l.filter ((fun p : PN => decide (p.1 = [x.1])) ∘ fun f => (([f.1],f.2.2) : PN)) = []:=by
              rw [List.filter_eq_nil_iff]
              intro z hz hc
              simp at hc
              exact hnf.1 (by rw [← hc]; exact List.mem_map_of_mem hz)
            simp only [List.filter_cons,this]
            simp
          · have hyx : ¬ y.1 = x.1:=fun h => hnf.1 (by rw [h]; exact List.mem_map_of_mem hx)
            simp only [List.filter_cons]
            simp [hyx]
            have:=ih2 hnf.2 hx
            simpa [Function.comp] using this
      rw [e2]
      rfl
    have hdj : ∀ x ∈ files,∀ y ∈ dirs,x.1 ≠ y.1:=fun x hx y hy h => (List.nodup_append.1 h4).2.2 x.1 (List.mem_map_of_mem hx) y.1 (List.mem_map_of_mem hy) h
    have hsub : ∀ x ∈ files,subP x.1 ps = []:=fun x hx => by
      cases hs : subP x.1 ps with
      | nil => rfl
      | cons r l =>
        have:=(h3 x.1).1 (by rw [hs]; simp)
        obtain ⟨y,hy,he⟩:=List.mem_map.1 this
        exact absurd he.symm (hdj x hx y hy)
    have hef : ∀ x ∈ files,entU f ps x.1 = (x.1,idF 1 x.2.2) ∧ blkU f ps x.1 = blocksF 1 x.2.2:=fun x hx => by
      unfold entU blkU
      rw [scanP_is h1,hfil x hx,hsub x hx]
      simp
    have hdne : ∀ y ∈ dirs,subP y.1 ps ≠ []:=fun y hy => (h3 y.1).2 (List.mem_map_of_mem hy)
    have hdf : ∀ y ∈ dirs,filP y.1 ps = []:=fun y hy => by
      unfold filP
      rw [List.filter_eq_nil_iff]
      intro p hp hc
      simp at hc
      have hm : p ∈ ps.filter oneP:=List.mem_filter.2 ⟨hp,by simp [oneP,hc]⟩
      rw [← h2] at hm
      obtain ⟨x,hx,rfl⟩:=List.mem_map.1 hm
      simp at hc
      exact hdj x hx y hy hc
    have hed : ∀ y ∈ dirs,entU f ps y.1 = (y.1,idT y.2) ∧ blkU f ps y.1 = (dirI f (subP y.1 ps)).2:=fun y hy => by
      have hl : (subP y.1 ps).length ≠ 0:=fun h => hdne y hy (List.length_eq_zero_iff.1 h)
      unfold entU blkU
      rw [scanP_is h1,hdf y hy]
      simp only [if_neg hl,(ih y hy).1]
      simp
    have hnm : ∀ u,u ∈ namesP ps ↔ u ∈ files.map (·.1) ∨ u ∈ dirs.map (·.1):=fun u => by
      rw [namesP_mem]
      constructor
      · rintro ⟨p,hp,rfl⟩
        obtain ⟨l,d⟩:=p
        match l,h1 _ hp with
        | [m],_ =>
          have hm : (([m],d) : PN) ∈ ps.filter oneP:=List.mem_filter.2 ⟨hp,rfl⟩
          rw [← h2] at hm
          obtain ⟨x,hx,he⟩:=List.mem_map.1 hm
          left
          have : x.1 = m:=by simpa using congrArg (fun q : PN => q.1) he
          exact List.mem_map.2 ⟨x,hx,this⟩
        | m :: k :: q,_ =>
          right
          exact (h3 m).1 (fun h => by have:=mem_subP hp; rw [h] at this; cases this)
      · rintro (h | h)
        · obtain ⟨x,hx,rfl⟩:=List.mem_map.1 h
          exact ⟨_,hfm x hx,rfl⟩
        · have:=(h3 u).2 h
          cases hs : subP u ps with
          | nil => exact absurd hs this
          | cons r l =>
            obtain ⟨k,q,_,hm⟩:=subP_mem (show r ∈ subP u ps by rw [hs]; simp)
            exact ⟨_,hm,rfl⟩
    have hents : sortN (fileEs files ++ entsD dirs) = entsU f ps:=by
      refine sortN_ext (sortN_sort ?_) ?_ fun e => ?_
      · rw [List.map_append,entsD_map,fileEs,List.map_map,List.map_map]
        exact h4
      · unfold entsU
        show ((namesP ps).map (entU f ps)).Pairwise _
        rw [List.pairwise_map]
        exact (namesP_sort ps).imp fun h => h
      · rw [(sortN_perm _).mem_iff,List.mem_append,entsD_map]
        unfold fileEs entsU
        simp only [List.mem_map]
        constructor
        · rintro (⟨x,hx,rfl⟩ | ⟨y,hy,rfl⟩)
          · exact ⟨x.1,(hnm _).2 (.inl (List.mem_map_of_mem hx)),(hef x hx).1⟩
          · exact ⟨y.1,(hnm _).2 (.inr (List.mem_map_of_mem hy)),(hed y hy).1⟩
        · rintro ⟨u,hu,rfl⟩
          rcases (hnm u).1 hu with h | h
          · obtain ⟨x,hx,rfl⟩:=List.mem_map.1 h
            exact .inl ⟨x,hx,(hef x hx).1.symm⟩
          · obtain ⟨y,hy,rfl⟩:=List.mem_map.1 h
            exact .inr ⟨y,hy,(hed y hy).1.symm⟩
    rw [idT,blocksT,dirI_succ,hents]
    refine ⟨rfl,fun b hb => ?_⟩
    rcases List.mem_append.1 hb with hb | hb
    · refine List.mem_append.2 (.inl ?_)
      unfold blksU
      rw [List.mem_flatten]
      rcases List.mem_append.1 hb with hb | hb
      · unfold fileBs at hb
        rw [List.mem_flatten] at hb
        obtain ⟨l,hl,hbl⟩:=hb
        obtain ⟨x,hx,rfl⟩:=List.mem_map.1 hl
        exact ⟨blkU f ps x.1,List.mem_map_of_mem ((hnm _).2 (.inl (List.mem_map_of_mem hx))),by rw [(hef x hx).2]; exact hbl⟩
      · rw [blocksDs_map,List.mem_flatten] at hb
        obtain ⟨l,hl,hbl⟩:=hb
        obtain ⟨y,hy,rfl⟩:=List.mem_map.1 hl
        exact ⟨blkU f ps y.1,List.mem_map_of_mem ((hnm _).2 (.inr (List.mem_map_of_mem hy))),by rw [(hed y hy).2]; exact (ih y hy).2 b hbl⟩
    · exact List.mem_append.2 (.inr hb)
open Go.RowKit
theorem sub_len {α : Type} : ∀ {l m : List α},l.Nodup → (∀ x ∈ l,x ∈ m) → l.length ≤ m.length
  | [],m,_,_ => Nat.zero_le _
  | x :: l,m,hn,hs => by
    obtain ⟨a,b,rfl⟩:=List.append_of_mem (hs x (by simp))
    rw [List.nodup_cons] at hn
    have:=sub_len (l:=l) (m:=a ++ b) hn.2 fun y hy => by
      rcases List.mem_append.1 (hs y (by simp [hy])) with h | h
      · simp [h]
      · rcases List.mem_cons.1 h with rfl | h
        · exact absurd hy hn.1
        · simp [h]
    simp only [List.length_cons,List.length_append] at this ⊢
    omega
theorem innerR_lem {l : List (List UInt8)} (hl : Ids l) : (innerR l).length ≤ 1000:=by
  unfold innerR
  split
  · rename_i h
    have h8 : l.length ≤ 8:=by
      unfold innerE at h
      split at h
      · omega
      · split at h
        · omega
        · omega
    unfold innerTo
    rw [List.take_length,List.length_append,flat_ids hl]
    simp
    omega
  · simp
theorem above_small_b : ∀ (f : Nat) (l : List (List UInt8)),Ids l → ∀ b ∈ (above f l).1,b.length ≤ 1000
  | 0,l,_,b,hb => by rw [above] at hb; cases hb
  | f + 1,l,hl,b,hb => by
    by_cases h1 : 1 < l.length
    · rw [above_big h1] at hb
      rcases List.mem_append.1 hb with hb | hb
      · unfold rowsI at hb
        obtain ⟨j,_,rfl⟩:=List.mem_map.1 hb
        exact innerR_lem fun x hx => hl x (List.mem_of_mem_drop (List.mem_of_mem_take hx))
      · exact above_small_b f _ (ids_sha _) b hb
    · rw [above_small h1] at hb
      cases hb
theorem above_ids : ∀ (f : Nat) (l : List (List UInt8)),Ids l → Ids (above f l).2.2
  | 0,l,h => h
  | f + 1,l,h => by
    by_cases hb : 1 < l.length
    · rw [above_big hb]; exact above_ids f _ (ids_sha _)
    · rw [above_small hb]; exact h
theorem topF_len32 (d : List UInt8) : (topF d).length = 32:=by
  have h:=above_ids (d.length + 1) ((rowsD d).map sha) (ids_sha _)
  unfold topF aboveD
  cases ht : (above (d.length + 1) ((rowsD d).map sha)).2.2 with
  | nil => exact zeroId_length
  | cons x r => rw [ht] at h; exact h x (by simp)
theorem blocksF_small {k : Int} {d b : List UInt8} (hb : b ∈ blocksF k d) : b.length ≤ 1000:=by
  unfold blocksF at hb
  rcases List.mem_append.1 hb with hb | hb
  · rcases List.mem_append.1 hb with hb | hb
    · unfold rowsD at hb
      obtain ⟨j,_,rfl⟩:=List.mem_map.1 hb
      unfold blkD
      rw [List.length_cons,List.length_take]
      omega
    · exact above_small_b _ _ (ids_sha _) b hb
  · rw [List.mem_singleton.1 hb]
    have:=inodeR_len k (d.length : Int) ((aboveD d).2.1 : Int) (topF d) (by rw [topF_len32])
    unfold nodeF
    omega
mutual
theorem blocksT_small : ∀ (T : HT) (b : List UInt8),b ∈ blocksT T → b.length ≤ 1000
  | .mk _ _ _ dirs files,b,hb => by
    rw [blocksT] at hb
    rcases List.mem_append.1 hb with hb | hb
    · rcases List.mem_append.1 hb with hb | hb
      · unfold fileBs at hb
        rw [List.mem_flatten] at hb
        obtain ⟨l,hl,hbl⟩:=hb
        obtain ⟨x,_,rfl⟩:=List.mem_map.1 hl
        exact blocksF_small hbl
      · exact blocksDs_small dirs b hb
    · exact blocksF_small hb
theorem blocksDs_small : ∀ (ds : List (List UInt8 × HT)) (b : List UInt8),b ∈ blocksDs ds → b.length ≤ 1000
  | [],b,hb => by rw [blocksDs] at hb; cases hb
  | d :: ds,b,hb => by
    rw [blocksDs] at hb
    rcases List.mem_append.1 hb with hb | hb
    · exact blocksT_small d.2 b hb
    · exact blocksDs_small ds b hb
end
theorem buildE_wrong {xs : List F3} (h : buildE xs = 0) : xs.length ≤ 20 ∧ ∀ x ∈ xs,wrongI x.1 x.2.2 = 0:=by
  unfold buildE at h
  split at h
  · cases h
  · split at h
    · rename_i h1 h2; exact absurd h h2
    · rename_i h1 h2
      exact ⟨by omega,firstW_zero (by cases hh : decide (firstW xs = 0) with
        | true => exact of_decide_eq_true hh
        | false => exact absurd (of_decide_eq_false hh) h2)⟩
theorem parts_ok {xs : List F3} (h : buildE xs = 0) : (partsN xs).length ≤ 20 ∧ (∀ p ∈ partsN xs,p.2.length ≤ 1000 ∧ p.1.length ≤ 5):=by
  obtain ⟨h1,h2⟩:=buildE_wrong h
  refine ⟨by unfold partsN; rw [List.length_map]; exact h1,fun p hp => ?_⟩
  unfold partsN at hp
  obtain ⟨x,hx,rfl⟩:=List.mem_map.1 hp
  obtain ⟨h3,_,h5⟩:=wrongI_zero (h2 x hx)
  exact ⟨h5,splitN_five h3⟩
theorem tree_len {xs : List F3} {T : HT} (hf : Filled xs T) (h : buildE xs = 0) {l : List TB} (ht : TreeOf (blocksT T) l) : l.length ≤ bnd 5:=by
  obtain ⟨h1,h2⟩:=parts_ok h
  have hr:=rel_dir 4 T _ hf.rel (fun p hp => (h2 p hp).2)
  have hn : (l.map (·.1)).Nodup:=by
    have:=ht.sorted
    refine List.Pairwise.map _ (fun a b hab => ?_) this
    intro hc
    rw [hc,ltK_irrefl] at hab
    cases hab
  have hl:=sub_len (m:=(dirI 5 (partsN xs)).2.map sha) hn fun k hk => by
    obtain ⟨p,hp,rfl⟩:=List.mem_map.1 hk
    obtain ⟨h3,h4,_⟩:=ht.from_ p hp
    rw [h3]
    exact List.mem_map_of_mem (hr.2 _ h4)
  rw [List.length_map,List.length_map] at hl
  exact Nat.le_trans hl (dirI_le 5 _ h1 fun p hp => by have:=(h2 p hp).1; omega)
theorem tree_small {xs : List F3} {T : HT} (hf : Filled xs T) (h : buildE xs = 0) (hxl : xs.length ≤ 20) (hxs : Short3 xs) {l : List TB} (ht : TreeOf (blocksT T) l) {es : List EB} (he : es.map toTB = l) : es.length ≤ 1000000000000 ∧ ∀ b ∈ es,b.2.length ≤ 1000000000:=by
  refine ⟨?_,fun b hb => ?_⟩
  · have h1:=tree_len hf h ht
    have h2:=congrArg List.length he
    rw [List.length_map] at h2
    have h3 : bnd 5 ≤ 1000000000000:=by decide
    omega
  · have : toTB b ∈ l:=by rw [← he]; exact List.mem_map_of_mem hb
    have h3:=(ht.from_ _ this).2.1
    have:=blocksT_small T _ h3
    show (toTB b).2.1.length ≤ _
    omega
open Go.RowKit
set_option maxRecDepth 8000
theorem eb_rest1 {v : Value} {es : List EB} {k : Nat} (hk : k + 1 ≤ es.length) {h : Hlt} (hr : rdP 35 v es.length (recC bvC (es.map (fun p : EB => p.1))) h) : rdP 35 (subV 35 v (k + 1) es.length) (es.drop (k + 1)).length (recC bvC ((es.drop (k + 1)).map (fun p : EB => p.1))) h:=eb_rest hk hr
theorem dat_subE {es zs : List EB} {h : Hlt} (hp : datE es h) (hs : ∀ b ∈ zs,b ∈ es) : datE zs h:=fun b hb => hp b (hs b hb)
def setD (v : Value) (hv : v.oneCell' = true) (d : List UInt8) (x : EB) : EB:=(⟨(x.1.key,v,x.1.src,x.1.exp),x.1.len,hv⟩,d)
def setK (k : List UInt8) (hk : k.length = 32) (x : EB) : EB:=(⟨(k,x.1.sl,x.1.src,x.1.exp),hk,x.1.one⟩,x.2)
theorem rec_set {α : Type} {f : α → List Value} {S : Nat} {es : List α} (h : ∀ e ∈ es,(f e).length = S) {k j : Nat} (hk : k < es.length) (hj : j < S) {x : α} {u : Value} (hx : (f es[k]).set j u = f x) : (recC f es).set (k * S + j) u = recC f (es.set k x):=by
  induction es generalizing k with
  | nil => cases hk
  | cons e es ih =>
    have he:=h e (by simp)
    cases k with
    | zero =>
      rw [Nat.zero_mul,Nat.zero_add]
      show (f e ++ recC f es).set j u = _
      rw [List.set_append_left _ _ (by rw [he]; exact hj)]
      show _ = f x ++ recC f es
      rw [← hx]
      rfl
    | succ k =>
      show (f e ++ recC f es).set _ u = f e ++ recC f (es.set k x)
      have hle : S + k * S + j = (k + 1) * S + j:=by rw [Nat.succ_mul]; omega
      rw [List.set_append_right _ _ (by rw [he,← hle]; omega)]
      congr 1
      rw [he,← hle,show S + k * S + j - S = k * S + j by omega]
      exact ih (fun e he => h e (by simp [he])) (by simpa using hk) (by simpa using hx)
theorem eb_setD {es : List EB} {k : Nat} {b : EB} (hb : es[k]? = some b) (v : Value) (hv : v.oneCell' = true) (d : List UInt8) : (recC bvC (es.map (fun p : EB => p.1))).set (k * 35 + 32) v = recC bvC ((es.set k (setD v hv d b)).map (fun p : EB => p.1)):=by
  obtain ⟨hk,he⟩:=List.getElem?_eq_some_iff.1 hb
  rw [List.map_set]
  refine rec_set (bvs_len (es.map (fun p : EB => p.1))) (by rw [List.length_map]; exact hk) (by decide) ?_
  rw [List.getElem_map,he]
  exact bk_set_data b.1.len v
theorem eb_setK {es : List EB} {k : Nat} {b : EB} (hb : es[k]? = some b) (key : List UInt8) (hl : key.length = 32) : over (recC bvC (es.map (fun p : EB => p.1))) (k * 35 + 0) (bs key) = recC bvC ((es.set k (setK key hl b)).map (fun p : EB => p.1)):=by
  obtain ⟨hk,he⟩:=List.getElem?_eq_some_iff.1 hb
  rw [List.map_set]
  refine recC_setF (d:=default) (bvs_len (es.map (fun p : EB => p.1))) (by rw [List.length_map]; exact hk) (by rw [bs_length,hl]; decide) ?_
  have e : (es.map (fun p : EB => p.1)).getD k default = b.1:=by simp [hk,he]
  rw [e]
  have:=over_mid [] (bs b.1.key) (bs key) [b.1.sl,.int .i64 b.1.src,.int .i64 b.1.exp] (by rw [bs_length,bs_length,b.1.len,hl])
  have h2 : over (bvC b.1) 0 (bs key) = bkC key b.1.sl b.1.src b.1.exp:=by simpa [bvC,bkC] using this
  exact h2
theorem set_get {es : List EB} {k : Nat} {b c : EB} (hb : es[k]? = some b) : (es.set k c)[k]? = some c:=by
  obtain ⟨hk,_⟩:=List.getElem?_eq_some_iff.1 hb
  simp [hk]
theorem set_mem {es : List EB} {k : Nat} {b c : EB} (hb : es[k]? = some b) : c ∈ es.set k c:=List.mem_of_getElem? (set_get hb)
theorem datE_set {es : List EB} {m : Nat} {v : Value} {hv : v.oneCell' = true} {dd : List UInt8} {b : EB} {t : TypeId} {h : Hlt} (hs : starL [datE es,rowB t v dd] h) : datE (es.set m (setD v hv dd b)) h:=fun p hp =>
  (List.mem_or_eq_of_mem_set hp).elim (fun hp => starL_le hs (φ:=rdB p.1.sl p.2) 0 rfl fun h' h1 h2 => rdP_le h2 (h1 p hp)) (fun he => by rw [he]; exact starL_le hs (φ:=rdB v dd) 1 rfl fun h' h1 h2 => rdP_le h2 (rp9 h1))
theorem datE_key {es : List EB} {m : Nat} {b b1 : EB} {key : List UInt8} {hk : key.length = 32} (hb : es[m]? = some b) {h : Hlt} (hp : datE (es.set m b1) h) : datE (es.set m (setK key hk b1)) h:=fun p hpm => by
  obtain ⟨i,hi⟩:=List.mem_iff_getElem?.1 hpm
  by_cases him : i = m
  · subst him
    rw [set_get hb] at hi
    injection hi with hi
    rw [← hi]
    exact hp b1 (set_mem hb)
  · rw [List.getElem?_set_ne (fun h => him h.symm)] at hi
    exact hp p (List.mem_of_getElem? (i:=i) (by rw [List.getElem?_set_ne (fun h => him h.symm)]; exact hi))
theorem jn_one (ns : List Int) : (jn [nameN ns]).length < 140737488355328:=by
  have:=nameN_len ns
  simp [jn]
  omega
theorem join_one_len (ns : List Int) : (joinN [nameN ns]).1.length ≤ 1000000000:=by
  have h1:=nameN_len ns
  have h2:=joinL_len [nameN ns]
  have h3 : (jn [nameN ns]).length = (nameN ns).length + 1:=by simp [jn]
  unfold joinN
  split
  · simp
  · simp only [List.length_cons]; omega
theorem four_short {p : List UInt8} (hp : p.length ≤ 200) : ∀ z ∈ ([p,[47],[47,97],[47,97,47,98]] : List (List UInt8)),z.length ≤ 1000000000:=by
  intro z hz
  rcases List.mem_cons.1 hz with rfl | hz
  · omega
  · have h4 : ∀ z ∈ ([[47],[47,97],[47,97,47,98]] : List (List UInt8)),z.length ≤ 4:=by decide
    have:=h4 z hz
    omega
theorem sz_id {y : List UInt8} (h : y.length = 32) : ∀ w,(sizeOf 29).run Tryz.prog w = .ok (Value.agg (bs y).toArray).cells.size w:=fun w => by
  have e : (Value.agg (bs y).toArray).cells.size = 32:=by show (bs y).toArray.size = 32; simp [bs_length,h]
  rw [e]
  exact Tryz.sizeOf29 w
theorem run_tdiv {P : Program} (a b : Int) (t : TypeId) (x y : Operand) (h : b ≠ 0) (w : World) : ((do eqGuard .quo t x y (.int .i64 a) (.int .i64 b); binOp .quo t (.int .i64 a) (.int .i64 b) : Sem Value)).run P w = .ok (.int .i64 (IntKind.i64.wrap (a.tdiv b))) w:=by
  simp [eqGuard,binOp,Op.intDiv,h]
set_option maxHeartbeats 2000000 in
theorem treeAsks_spec (v : Value) (fs : List FV) (w : Value) (zs : List Int) (u : Value) (ts : List Int) (p : List UInt8) (q : Value) (ns : List Int) (off n : Int) (F : HP) (hF : ∀ h,F h → rdFV v fs h) (hN : ∀ h,F h → datFV fs h) (hW : ∀ h,F h → rdN w zs h) (hU : ∀ h,F h → rdN u ts h) (hQ : ∀ h,F h → rdN q ns h) (hT : ∀ h,F h → tabsP h) : CallsS Tryz.prog 8 #[v,w,u,sV p,q,.int .i64 off,.int .i64 n] F [] (fun r Ps => r = .bool true ∧ Ps = []):=by
 refine callsS_enter Tryz.func8 rfl Tryz.ntmps8 (by simp) (fun E => ?_)
 refine Q9 (R9 (G9 rfl rfl (N9 (X9 (Q9 (Q9 (R9 (Lc9 rfl rfl (by decide) (Oc9 200 [0] [] rfl Tryz.call13 rfl rfl rfl (by decide) (by decide) (known10_spec _ (ts9 0 rfl hT)) (fun v28 Ps28 hR28 => ?_))))))))))
 obtain ⟨rfl,rfl⟩:=hR28
 refine (L9 rfl (Pu_un rfl rfl (run_not _)) (N9 (X9 ?_)))
 refine W_false rfl (rfl) ?_
 refine K9 (X9 ?_)
 refine Q9 (Q9 (R9 (M9 rfl rfl (L9 rfl (Pu_lenStr rfl Tryz.underlying9 rfl) (L9 rfl (Pn9 rfl rfl rfl (run_gtr _ _ _ _ _ _)) (M9 rfl rfl (Lg9 rfl rfl rfl rfl (by decide) (fun hb => (Pm9 rfl rfl)) (Lg9 rfl rfl rfl rfl (by decide) (fun hb => (Pl9 (r:=0) rfl Tryz.runUnderlying61 (ev_gv rfl hb) rfl hW)) (Lg9 rfl rfl rfl rfl (by decide) (fun hb => (Pn9 rfl (ev_gv rfl hb) rfl (run_gtr _ _ _ _ _ _))) (L9 rfl (Pu_or rfl rfl rfl) (M9 rfl rfl (Lg9 rfl rfl rfl rfl (by decide) (fun hb => (Pm9 rfl rfl)) (Lg9 rfl rfl rfl rfl (by decide) (fun hb => (Pl9 (r:=0) rfl Tryz.runUnderlying61 (ev_gv rfl hb) rfl hU)) (Lg9 rfl rfl rfl rfl (by decide) (fun hb => (Pn9 rfl (ev_gv rfl hb) rfl (run_gtr _ _ _ _ _ _))) (L9 rfl (Pu_or rfl rfl rfl) (N9 (X9 ?_)))))))))))))))))
 refine C9 rfl (fun hc42 => ?_) (fun hc42 => ?_)
 ·
  refine Q9 (R9 (G9 rfl rfl (N9 (X9 ?_))))
  refine W_ret (X_then_ret ?_)
  exact Xq9 [] (Ps:=[]) (res1 Tryz.results8 rfl) rfl (by decide) ⟨rfl,rfl⟩
 ·
  have hlim : p.length ≤ 200 ∧ zs.length ≤ 10 ∧ ts.length ≤ 10:=by simp only [Bool.or_eq_false_iff,decide_eq_false_iff_not] at hc42; omega
  refine K9 (X9 ?_)
  refine Q9 (R9 (M9 rfl rfl (Lc9 rfl rfl (by decide) (Oc9 300 [0] [] rfl Tryz.call14 rfl rfl rfl (by decide) (by decide) (good_spec v fs _ (rs9 0 rfl hF) (datFV_star 0 rfl hN)) (fun v44 Ps44 hR44 => ?_)))))
  obtain ⟨xs,hxb,hxl,hxs,rfl⟩:=hR44
  skip
  refine (G9 rfl rfl (N9 (X9 ?_)))
  refine Q9 (R9 (M9 rfl rfl (Lc9 rfl rfl (by decide) (Oc9 400 [0,300] [] rfl Tryz.call16 rfl rfl rfl (by decide) (by decide) (build_spec v44 xs (by omega) (short_big hxs) _ (rs9 1 rfl (fun _ hp => itP_rd hp)) (datI_star 1 rfl (fun _ hp => itP_dat hp)) (ts9 0 rfl hT)) (fun v47 Ps47 hR47 => ?_)))))
  obtain ⟨w0,id,l0,rfl,rfl,hid,_,hgood⟩:=hR47
  refine WL_fact (r:=400) rfl (fun h hp => treeP_one hp) (fun (hvo : w0.oneCell' = true) => ?_)
  rw [hxb]
  refine (M9 rfl rfl (L9 rfl (Pe9 rfl rfl rfl) (L9 rfl (Pe9 rfl rfl rfl) (Lc9 rfl rfl (by decide) (OpT_alloc (r:=401) (cs:=(treeC (.slice none 0 0) zeroId)) rfl (zero_run (by kernel_rfl : (Tryz.prog.info? 31).bind (·.zero) = some (.agg (treeC (.slice none 0 0) zeroId).toArray))) rfl (fun g401 => (Lc09 rfl rfl (OpT_storeAll (r:=401) rfl Tryz.sizeOf31 rfl rfl rfl (treeC_length zeroId_length) (treeC_length hid) (treeC_one hvo) ?_))))))))
  refine (G9 rfl rfl (N9 (X9 ?_)))
  refine Q9 (Q9 (R9 (M9 rfl rfl (L9 rfl (Pn9 rfl rfl rfl (run_neq _ _ _ _ _ _)) (N9 (X9 ?_))))))
  refine W_false rfl (rfl) ?_
  refine K9 (X9 ?_)
  refine Q9 (Q9 ?_)
  refine W_openTree 400 700 rfl (fun es0 hes0 => ?_)
  obtain ⟨Ta,hfa,hid2,hta⟩:=hgood hxb
  obtain ⟨hl0,hd0⟩:=tree_small hfa hxb hxl hxs hta hes0
  refine W_openItems 300 710 rfl ?_
  refine R9 (G9 rfl rfl (N9 (X9 ?_)))
  refine W_block ?_
  refine W_loop (α:=Nat × Value × List EB) (fun x => [(1,w),(2,u),(3,sV p),(4,q),(5,.int .i64 off),(6,.int .i64 n),(15,v44),(16,.pointer (some ⟨g401,0,none⟩)),(18,.int .i64 (x.1 : Int))]) (fun x => [(0,F),(710,rowR itC 2 38 v44 xs),(700,rowP 59 35 x.2.1 (x.2.2).length (recC bvC ((x.2.2).map (fun p : EB => p.1)))),(701,datE x.2.2),(401,blk g401 31 (treeC x.2.1 id))]) (fun x => x.1 ≤ zs.length ∧ x.2.1.oneCell' = true ∧ x.2.2.length ≤ 1000000000000 ∧ (∀ b ∈ x.2.2,b.2.length ≤ 1000000000)) (fun x => zs.length - x.1) ((0,w0,es0)) ⟨Nat.zero_le _,hvo,hl0,hd0⟩ (a9 rfl) (a9 rfl) (fun x hx => ?_)
  obtain ⟨hx1,hx2,hx3,hx4⟩:=hx
  refine Q9 (Q9 (R9 (M9 rfl rfl (M9 rfl rfl (L9 rfl (Pl9 (r:=0) rfl Tryz.runUnderlying61 rfl rfl hW) (L9 rfl (Pn9 rfl rfl rfl (run_lss _ _ _ _ _ _)) (M9 rfl rfl (Lg9 rfl rfl rfl rfl (by decide) (fun hb => (F9 0 rfl rfl)) (Lg9 rfl rfl rfl rfl (by decide) (fun hb => (Pb9 (r:=401) rfl Tryz.isAgg27 (ev_gv rfl hb) rfl rfl)) (Lg9 rfl rfl rfl rfl (by decide) (fun hb => (Pl9 (r:=700) rfl Tryz.runUnderlying27 (ev_gv rfl hb) rfl (fun _ h => rp9 h))) (Lg9 rfl rfl rfl rfl (by decide) (fun hb => (Pn9 rfl (ev_gv rfl hb) rfl (run_gtr _ _ _ _ _ _))) (L9 rfl (Pu_and rfl rfl rfl) (N9 (X9 ?_))))))))))))))
  refine C9 rfl (fun hc61 => ?_) (fun hc61 => ?_)
  ·
   have hlt : x.1 < zs.length ∧ 0 < x.2.2.length:=by simp only [Bool.and_eq_true,decide_eq_true_eq] at hc61; omega
   refine K9 (X9 ?_)
   refine Q9 ?_
   refine W_block ?_
   refine Q9 ?_
   refine W_draw (N:=9) (by kernel_rfl) rfl [(0,_),(401,_),(700,_)] ⟨rfl,rfl,rfl,trivial⟩ ?_
   refine (T9 0 rfl rfl (Pm9 rfl rfl) (T9 1 rfl rfl (Pm9 rfl rfl) (T9 2 rfl rfl (Pu_idxS1 (r:=0) rfl Tryz.runUnderlying61 Tryz.sizeOf3 rfl rfl rfl hW (by omega)) (T9 3 rfl rfl (Py9 (r:=0) rfl Tryz.isAgg3 rfl rfl hW (is_at (k:=x.1) hlt.1)) (T9 4 rfl rfl (F9 0 rfl rfl) (T9 5 rfl rfl (Pb9 (r:=401) rfl Tryz.isAgg27 rfl rfl rfl) (T9 6 rfl rfl (Pl9 (r:=700) rfl Tryz.runUnderlying27 rfl rfl (fun _ h => rp9 h)) (Y9 [7] ?_))))))))
   refine Z9 rfl rfl (Oc9 800 [0,401,700,701,710] [] rfl Tryz.call15 rfl rfl rfl (by decide) (by decide) (within_spec (zs.getD x.1 0) ((x.2.2.length : Nat) : Int) (by omega) (by omega) _) (fun v71 Ps71 hR71 => ?_)) ?_
   ·
    obtain ⟨rfl,rfl⟩:=hR71
    refine ⟨⟨rfl,rfl,rfl,trivial⟩,?_⟩
    obtain ⟨m,hm,hml⟩ : ∃ m : Nat,(zs.getD x.1 0) % ((x.2.2.length : Nat) : Int) = (m : Int) ∧ m < x.2.2.length:=⟨((zs.getD x.1 0) % ((x.2.2.length : Nat) : Int)).toNat,by have:=Int.emod_nonneg (zs.getD x.1 0) (show ((x.2.2.length : Nat) : Int) ≠ 0 by omega); omega,by have h1:=Int.emod_nonneg (zs.getD x.1 0) (show ((x.2.2.length : Nat) : Int) ≠ 0 by omega); have h2:=Int.emod_lt_of_pos (zs.getD x.1 0) (show (0 : Int) < ((x.2.2.length : Nat) : Int) by omega); omega⟩
    rw [hm]
    refine (T9 8 rfl rfl (Pg9 rfl rfl) (Ad9 (by kernel_rfl) (X9 ?_)))
    have hmle : m ≤ x.2.2.length:=by omega
    have hm1 : m + 1 ≤ x.2.2.length:=by omega
    refine W_draw (N:=14) (by kernel_rfl) rfl [(0,_),(700,_)] ⟨rfl,rfl,trivial⟩ ?_
    refine (T9 1 rfl rfl (F9 0 rfl rfl) (T9 3 rfl rfl (Pm9 rfl rfl) (T9 6 rfl rfl (F9 0 rfl rfl) (T9 8 rfl rfl (Pm9 rfl rfl) (T9 9 rfl rfl (Pn9 rfl rfl rfl (run_add _ _ _ _ _ (by omega))) ?_)))))
    rw [show (m : Int) + 1 = ((m + 1 : Nat) : Int) by omega]
    refine (Y9 [0,2,7] ?_)
    refine Z9 rfl rfl (OpT_buildRows (r:=801) [] rfl rfl Tryz.runUnderlying27 Tryz.sizeOf59 Tryz.zeroValue59 rfl (by decide) rfl (by decide) (by intro r hr; simp at hr) rfl (fun v72 => ⟨⟨rfl,rfl,trivial⟩,?_⟩)) ?_
    ·
     refine AH_turn (P':=rowP 59 35 v72 (([] : List EB)).length (recC bvC ((([] : List EB)).map (fun p : EB => p.1)))) 801 rfl (fun h hp => hp) ?_
     refine (Y9 [2,7] ?_)
     refine Z9 rfl rfl (Or9 (Pb9 (r:=401) rfl Tryz.isAgg27 rfl rfl rfl) ⟨⟨rfl,rfl,trivial⟩,?_⟩) ?_
     ·
      refine (T9 4 rfl rfl (Pu_slice (r:=700) (b:=m) rfl Tryz.runUnderlying27 Tryz.sizeOf59 rfl rfl (fun _ h => rp9 h) (.inl ⟨rfl,rfl⟩) (.inr ⟨_,_,_,rfl,rfl,rfl⟩) (Nat.zero_le _) hmle) (Y9 [5,7] ?_))
      refine Z9 rfl rfl (Oa9 (r:=801) (r2:=700) rfl Tryz.underlying27 TI.hi59 TI.hz59 TI.hs59 TI.hby59 TI.hzs59 (by decide) rfl rfl rfl rfl (fun _ h => eb_front (k:=m) (by omega) (rp9 h)) (recC_ones bvC_one) (by unfold maxLen; rw [List.length_nil]; omega) (by rw [List.length_nil]; omega) (fun v77 => ?_)) ?_
      ·
       refine ⟨⟨rfl,rfl,trivial⟩,?_⟩
       refine AH_turn (P':=rowP 59 35 v77 (x.2.2.take m).length (recC bvC ((x.2.2.take m).map (fun p : EB => p.1)))) 801 rfl (fun h hp => row_nm hp (by rw [List.length_nil,List.length_take]; omega) (List.nil_append _)) ?_
       refine (Y9 [7] ?_)
       refine Z9 rfl rfl (Or9 (Pb9 (r:=401) rfl Tryz.isAgg27 rfl rfl rfl) ⟨⟨rfl,rfl,trivial⟩,?_⟩) ?_
       ·
        refine (T9 10 rfl rfl (Pu_slice (r:=700) (a:=(m + 1)) rfl Tryz.runUnderlying27 Tryz.sizeOf59 rfl rfl (fun _ h => rp9 h) (.inr ⟨_,_,_,rfl,rfl,rfl⟩) (.inl ⟨rfl,rfl⟩) hm1 (by omega)) (Y9 [11] ?_))
        refine Z9 rfl rfl (Oa9 (r:=801) (r2:=700) rfl Tryz.underlying27 TI.hi59 TI.hz59 TI.hs59 TI.hby59 TI.hzs59 (by decide) rfl rfl rfl rfl (fun _ h => eb_rest1 (k:=m) (by omega) (rp9 h)) (recC_ones bvC_one) (by unfold maxLen; rw [List.length_take,List.length_drop]; omega) (by rw [List.length_take,List.length_drop]; omega) (fun v83 => ?_)) ?_
        ·
         refine ⟨⟨rfl,rfl,trivial⟩,?_⟩
         refine AH_turn (P':=rowP 59 35 v83 (x.2.2.take m ++ x.2.2.drop (m + 1)).length (recC bvC ((x.2.2.take m ++ x.2.2.drop (m + 1)).map (fun p : EB => p.1)))) 801 rfl (fun h hp => row_nm hp List.length_append.symm (by rw [← recC_append,← List.map_append])) ?_
         refine AH_fact (r:=801) rfl (fun h hp => rd_one (rp9 hp)) (fun ho83 => ?_)
         refine (T9 12 rfl rfl (F9 0 rfl rfl) (Y9 [13] ?_))
         refine Ac09 rfl rfl rfl (OpT_storeB1 (r:=401) rfl Tryz.sizeOf27 rfl rfl rfl ho83 (by rw [treeC_length hid]; decide) (show _ = treeC v83 id from rfl) ?_) ?_
         ·
          refine ⟨⟨rfl,rfl,trivial⟩,?_⟩
          refine (Ad9 (by kernel_rfl) (X_block (X9 ?_)))
          refine R9 (M9 rfl rfl (L9 rfl (Pn9 rfl rfl rfl (run_add _ _ _ _ _ (by omega))) (G9 rfl rfl (N9 ?_))))
          refine X_ren 801 700 rfl ?_
          refine X_turn (P':=datE (x.2.2.take m ++ x.2.2.drop (m + 1))) 701 rfl (fun h hp => dat_subE hp fun b hb => (List.mem_append.1 hb).elim (fun h => List.mem_of_mem_take h) (fun h => List.mem_of_mem_drop h)) ?_
          exact Xr9 (x.1 + 1,v83,x.2.2.take m ++ x.2.2.drop (m + 1)) ⟨by dsimp only; omega,ho83,by dsimp only; rw [List.length_append,List.length_take,List.length_drop]; omega,fun b hb => (List.mem_append.1 hb).elim (fun h => hx4 b (List.mem_of_mem_take h)) (fun h => hx4 b (List.mem_of_mem_drop h))⟩ (by dsimp only; omega) (a9 rfl) (a9 rfl)
         exact An9
        exact An9
       exact An9
      refine Z9 rfl rfl (Or9 (Pb9 (r:=401) rfl Tryz.isAgg27 rfl rfl rfl) ⟨⟨rfl,rfl,trivial⟩,?_⟩) ?_
      ·
       refine (T9 10 rfl rfl (Pu_slice (r:=700) (a:=(m + 1)) rfl Tryz.runUnderlying27 Tryz.sizeOf59 rfl rfl (fun _ h => rp9 h) (.inr ⟨_,_,_,rfl,rfl,rfl⟩) (.inl ⟨rfl,rfl⟩) hm1 (by omega)) (Y9 [5] ?_))
       refine Z9 rfl rfl (Oa9 (r:=801) (r2:=700) rfl Tryz.underlying27 TI.hi59 TI.hz59 TI.hs59 TI.hby59 TI.hzs59 (by decide) rfl rfl rfl rfl (fun _ h => eb_front (k:=m) (by omega) (rp9 h)) (recC_ones bvC_one) (by unfold maxLen; rw [List.length_nil]; omega) (by rw [List.length_nil]; omega) (fun v77 => ?_)) ?_
       ·
        refine ⟨⟨rfl,rfl,trivial⟩,?_⟩
        refine AH_turn (P':=rowP 59 35 v77 (x.2.2.take m).length (recC bvC ((x.2.2.take m).map (fun p : EB => p.1)))) 801 rfl (fun h hp => row_nm hp (by rw [List.length_nil,List.length_take]; omega) (List.nil_append _)) ?_
        refine (Y9 [11] ?_)
        refine Z9 rfl rfl (Oa9 (r:=801) (r2:=700) rfl Tryz.underlying27 TI.hi59 TI.hz59 TI.hs59 TI.hby59 TI.hzs59 (by decide) rfl rfl rfl rfl (fun _ h => eb_rest1 (k:=m) (by omega) (rp9 h)) (recC_ones bvC_one) (by unfold maxLen; rw [List.length_take,List.length_drop]; omega) (by rw [List.length_take,List.length_drop]; omega) (fun v83 => ?_)) ?_
        ·
         refine ⟨⟨rfl,rfl,trivial⟩,?_⟩
         refine AH_turn (P':=rowP 59 35 v83 (x.2.2.take m ++ x.2.2.drop (m + 1)).length (recC bvC ((x.2.2.take m ++ x.2.2.drop (m + 1)).map (fun p : EB => p.1)))) 801 rfl (fun h hp => row_nm hp List.length_append.symm (by rw [← recC_append,← List.map_append])) ?_
         refine AH_fact (r:=801) rfl (fun h hp => rd_one (rp9 hp)) (fun ho83 => ?_)
         refine (T9 12 rfl rfl (F9 0 rfl rfl) (Y9 [13] ?_))
         refine Ac09 rfl rfl rfl (OpT_storeB1 (r:=401) rfl Tryz.sizeOf27 rfl rfl rfl ho83 (by rw [treeC_length hid]; decide) (show _ = treeC v83 id from rfl) ?_) ?_
         ·
          refine ⟨⟨rfl,rfl,trivial⟩,?_⟩
          refine (Ad9 (by kernel_rfl) (X_block (X9 ?_)))
          refine R9 (M9 rfl rfl (L9 rfl (Pn9 rfl rfl rfl (run_add _ _ _ _ _ (by omega))) (G9 rfl rfl (N9 ?_))))
          refine X_ren 801 700 rfl ?_
          refine X_turn (P':=datE (x.2.2.take m ++ x.2.2.drop (m + 1))) 701 rfl (fun h hp => dat_subE hp fun b hb => (List.mem_append.1 hb).elim (fun h => List.mem_of_mem_take h) (fun h => List.mem_of_mem_drop h)) ?_
          exact Xr9 (x.1 + 1,v83,x.2.2.take m ++ x.2.2.drop (m + 1)) ⟨by dsimp only; omega,ho83,by dsimp only; rw [List.length_append,List.length_take,List.length_drop]; omega,fun b hb => (List.mem_append.1 hb).elim (fun h => hx4 b (List.mem_of_mem_take h)) (fun h => hx4 b (List.mem_of_mem_drop h))⟩ (by dsimp only; omega) (a9 rfl) (a9 rfl)
         exact An9
        exact An9
       exact An9
      exact An9
     refine Z9 rfl rfl (Or9 (Pb9 (r:=401) rfl Tryz.isAgg27 rfl rfl rfl) ⟨⟨rfl,rfl,trivial⟩,?_⟩) ?_
     ·
      refine (T9 10 rfl rfl (Pu_slice (r:=700) (a:=(m + 1)) rfl Tryz.runUnderlying27 Tryz.sizeOf59 rfl rfl (fun _ h => rp9 h) (.inr ⟨_,_,_,rfl,rfl,rfl⟩) (.inl ⟨rfl,rfl⟩) hm1 (by omega)) (Y9 [2] ?_))
      refine Z9 rfl rfl (Or9 (Pb9 (r:=401) rfl Tryz.isAgg27 rfl rfl rfl) ⟨⟨rfl,rfl,trivial⟩,?_⟩) ?_
      ·
       refine (T9 4 rfl rfl (Pu_slice (r:=700) (b:=m) rfl Tryz.runUnderlying27 Tryz.sizeOf59 rfl rfl (fun _ h => rp9 h) (.inl ⟨rfl,rfl⟩) (.inr ⟨_,_,_,rfl,rfl,rfl⟩) (Nat.zero_le _) hmle) (Y9 [5] ?_))
       refine Z9 rfl rfl (Oa9 (r:=801) (r2:=700) rfl Tryz.underlying27 TI.hi59 TI.hz59 TI.hs59 TI.hby59 TI.hzs59 (by decide) rfl rfl rfl rfl (fun _ h => eb_front (k:=m) (by omega) (rp9 h)) (recC_ones bvC_one) (by unfold maxLen; rw [List.length_nil]; omega) (by rw [List.length_nil]; omega) (fun v77 => ?_)) ?_
       ·
        refine ⟨⟨rfl,rfl,trivial⟩,?_⟩
        refine AH_turn (P':=rowP 59 35 v77 (x.2.2.take m).length (recC bvC ((x.2.2.take m).map (fun p : EB => p.1)))) 801 rfl (fun h hp => row_nm hp (by rw [List.length_nil,List.length_take]; omega) (List.nil_append _)) ?_
        refine (Y9 [11] ?_)
        refine Z9 rfl rfl (Oa9 (r:=801) (r2:=700) rfl Tryz.underlying27 TI.hi59 TI.hz59 TI.hs59 TI.hby59 TI.hzs59 (by decide) rfl rfl rfl rfl (fun _ h => eb_rest1 (k:=m) (by omega) (rp9 h)) (recC_ones bvC_one) (by unfold maxLen; rw [List.length_take,List.length_drop]; omega) (by rw [List.length_take,List.length_drop]; omega) (fun v83 => ?_)) ?_
        ·
         refine ⟨⟨rfl,rfl,trivial⟩,?_⟩
         refine AH_turn (P':=rowP 59 35 v83 (x.2.2.take m ++ x.2.2.drop (m + 1)).length (recC bvC ((x.2.2.take m ++ x.2.2.drop (m + 1)).map (fun p : EB => p.1)))) 801 rfl (fun h hp => row_nm hp List.length_append.symm (by rw [← recC_append,← List.map_append])) ?_
         refine AH_fact (r:=801) rfl (fun h hp => rd_one (rp9 hp)) (fun ho83 => ?_)
         refine (T9 12 rfl rfl (F9 0 rfl rfl) (Y9 [13] ?_))
         refine Ac09 rfl rfl rfl (OpT_storeB1 (r:=401) rfl Tryz.sizeOf27 rfl rfl rfl ho83 (by rw [treeC_length hid]; decide) (show _ = treeC v83 id from rfl) ?_) ?_
         ·
          refine ⟨⟨rfl,rfl,trivial⟩,?_⟩
          refine (Ad9 (by kernel_rfl) (X_block (X9 ?_)))
          refine R9 (M9 rfl rfl (L9 rfl (Pn9 rfl rfl rfl (run_add _ _ _ _ _ (by omega))) (G9 rfl rfl (N9 ?_))))
          refine X_ren 801 700 rfl ?_
          refine X_turn (P':=datE (x.2.2.take m ++ x.2.2.drop (m + 1))) 701 rfl (fun h hp => dat_subE hp fun b hb => (List.mem_append.1 hb).elim (fun h => List.mem_of_mem_take h) (fun h => List.mem_of_mem_drop h)) ?_
          exact Xr9 (x.1 + 1,v83,x.2.2.take m ++ x.2.2.drop (m + 1)) ⟨by dsimp only; omega,ho83,by dsimp only; rw [List.length_append,List.length_take,List.length_drop]; omega,fun b hb => (List.mem_append.1 hb).elim (fun h => hx4 b (List.mem_of_mem_take h)) (fun h => hx4 b (List.mem_of_mem_drop h))⟩ (by dsimp only; omega) (a9 rfl) (a9 rfl)
         exact An9
        exact An9
       exact An9
      exact An9
     exact An9
    refine Z9 rfl rfl (Or9 (Pb9 (r:=401) rfl Tryz.isAgg27 rfl rfl rfl) ⟨⟨rfl,rfl,trivial⟩,?_⟩) ?_
    ·
     refine (T9 4 rfl rfl (Pu_slice (r:=700) (b:=m) rfl Tryz.runUnderlying27 Tryz.sizeOf59 rfl rfl (fun _ h => rp9 h) (.inl ⟨rfl,rfl⟩) (.inr ⟨_,_,_,rfl,rfl,rfl⟩) (Nat.zero_le _) hmle) (Y9 [0,7] ?_))
     refine Z9 rfl rfl (OpT_buildRows (r:=801) [] rfl rfl Tryz.runUnderlying27 Tryz.sizeOf59 Tryz.zeroValue59 rfl (by decide) rfl (by decide) (by intro r hr; simp at hr) rfl (fun v72 => ⟨⟨rfl,rfl,trivial⟩,?_⟩)) ?_
     ·
      refine AH_turn (P':=rowP 59 35 v72 (([] : List EB)).length (recC bvC ((([] : List EB)).map (fun p : EB => p.1)))) 801 rfl (fun h hp => hp) ?_
      refine (Y9 [5,7] ?_)
      refine Z9 rfl rfl (Oa9 (r:=801) (r2:=700) rfl Tryz.underlying27 TI.hi59 TI.hz59 TI.hs59 TI.hby59 TI.hzs59 (by decide) rfl rfl rfl rfl (fun _ h => eb_front (k:=m) (by omega) (rp9 h)) (recC_ones bvC_one) (by unfold maxLen; rw [List.length_nil]; omega) (by rw [List.length_nil]; omega) (fun v77 => ?_)) ?_
      ·
       refine ⟨⟨rfl,rfl,trivial⟩,?_⟩
       refine AH_turn (P':=rowP 59 35 v77 (x.2.2.take m).length (recC bvC ((x.2.2.take m).map (fun p : EB => p.1)))) 801 rfl (fun h hp => row_nm hp (by rw [List.length_nil,List.length_take]; omega) (List.nil_append _)) ?_
       refine (Y9 [7] ?_)
       refine Z9 rfl rfl (Or9 (Pb9 (r:=401) rfl Tryz.isAgg27 rfl rfl rfl) ⟨⟨rfl,rfl,trivial⟩,?_⟩) ?_
       ·
        refine (T9 10 rfl rfl (Pu_slice (r:=700) (a:=(m + 1)) rfl Tryz.runUnderlying27 Tryz.sizeOf59 rfl rfl (fun _ h => rp9 h) (.inr ⟨_,_,_,rfl,rfl,rfl⟩) (.inl ⟨rfl,rfl⟩) hm1 (by omega)) (Y9 [11] ?_))
        refine Z9 rfl rfl (Oa9 (r:=801) (r2:=700) rfl Tryz.underlying27 TI.hi59 TI.hz59 TI.hs59 TI.hby59 TI.hzs59 (by decide) rfl rfl rfl rfl (fun _ h => eb_rest1 (k:=m) (by omega) (rp9 h)) (recC_ones bvC_one) (by unfold maxLen; rw [List.length_take,List.length_drop]; omega) (by rw [List.length_take,List.length_drop]; omega) (fun v83 => ?_)) ?_
        ·
         refine ⟨⟨rfl,rfl,trivial⟩,?_⟩
         refine AH_turn (P':=rowP 59 35 v83 (x.2.2.take m ++ x.2.2.drop (m + 1)).length (recC bvC ((x.2.2.take m ++ x.2.2.drop (m + 1)).map (fun p : EB => p.1)))) 801 rfl (fun h hp => row_nm hp List.length_append.symm (by rw [← recC_append,← List.map_append])) ?_
         refine AH_fact (r:=801) rfl (fun h hp => rd_one (rp9 hp)) (fun ho83 => ?_)
         refine (T9 12 rfl rfl (F9 0 rfl rfl) (Y9 [13] ?_))
         refine Ac09 rfl rfl rfl (OpT_storeB1 (r:=401) rfl Tryz.sizeOf27 rfl rfl rfl ho83 (by rw [treeC_length hid]; decide) (show _ = treeC v83 id from rfl) ?_) ?_
         ·
          refine ⟨⟨rfl,rfl,trivial⟩,?_⟩
          refine (Ad9 (by kernel_rfl) (X_block (X9 ?_)))
          refine R9 (M9 rfl rfl (L9 rfl (Pn9 rfl rfl rfl (run_add _ _ _ _ _ (by omega))) (G9 rfl rfl (N9 ?_))))
          refine X_ren 801 700 rfl ?_
          refine X_turn (P':=datE (x.2.2.take m ++ x.2.2.drop (m + 1))) 701 rfl (fun h hp => dat_subE hp fun b hb => (List.mem_append.1 hb).elim (fun h => List.mem_of_mem_take h) (fun h => List.mem_of_mem_drop h)) ?_
          exact Xr9 (x.1 + 1,v83,x.2.2.take m ++ x.2.2.drop (m + 1)) ⟨by dsimp only; omega,ho83,by dsimp only; rw [List.length_append,List.length_take,List.length_drop]; omega,fun b hb => (List.mem_append.1 hb).elim (fun h => hx4 b (List.mem_of_mem_take h)) (fun h => hx4 b (List.mem_of_mem_drop h))⟩ (by dsimp only; omega) (a9 rfl) (a9 rfl)
         exact An9
        exact An9
       exact An9
      refine Z9 rfl rfl (Or9 (Pb9 (r:=401) rfl Tryz.isAgg27 rfl rfl rfl) ⟨⟨rfl,rfl,trivial⟩,?_⟩) ?_
      ·
       refine (T9 10 rfl rfl (Pu_slice (r:=700) (a:=(m + 1)) rfl Tryz.runUnderlying27 Tryz.sizeOf59 rfl rfl (fun _ h => rp9 h) (.inr ⟨_,_,_,rfl,rfl,rfl⟩) (.inl ⟨rfl,rfl⟩) hm1 (by omega)) (Y9 [5] ?_))
       refine Z9 rfl rfl (Oa9 (r:=801) (r2:=700) rfl Tryz.underlying27 TI.hi59 TI.hz59 TI.hs59 TI.hby59 TI.hzs59 (by decide) rfl rfl rfl rfl (fun _ h => eb_front (k:=m) (by omega) (rp9 h)) (recC_ones bvC_one) (by unfold maxLen; rw [List.length_nil]; omega) (by rw [List.length_nil]; omega) (fun v77 => ?_)) ?_
       ·
        refine ⟨⟨rfl,rfl,trivial⟩,?_⟩
        refine AH_turn (P':=rowP 59 35 v77 (x.2.2.take m).length (recC bvC ((x.2.2.take m).map (fun p : EB => p.1)))) 801 rfl (fun h hp => row_nm hp (by rw [List.length_nil,List.length_take]; omega) (List.nil_append _)) ?_
        refine (Y9 [11] ?_)
        refine Z9 rfl rfl (Oa9 (r:=801) (r2:=700) rfl Tryz.underlying27 TI.hi59 TI.hz59 TI.hs59 TI.hby59 TI.hzs59 (by decide) rfl rfl rfl rfl (fun _ h => eb_rest1 (k:=m) (by omega) (rp9 h)) (recC_ones bvC_one) (by unfold maxLen; rw [List.length_take,List.length_drop]; omega) (by rw [List.length_take,List.length_drop]; omega) (fun v83 => ?_)) ?_
        ·
         refine ⟨⟨rfl,rfl,trivial⟩,?_⟩
         refine AH_turn (P':=rowP 59 35 v83 (x.2.2.take m ++ x.2.2.drop (m + 1)).length (recC bvC ((x.2.2.take m ++ x.2.2.drop (m + 1)).map (fun p : EB => p.1)))) 801 rfl (fun h hp => row_nm hp List.length_append.symm (by rw [← recC_append,← List.map_append])) ?_
         refine AH_fact (r:=801) rfl (fun h hp => rd_one (rp9 hp)) (fun ho83 => ?_)
         refine (T9 12 rfl rfl (F9 0 rfl rfl) (Y9 [13] ?_))
         refine Ac09 rfl rfl rfl (OpT_storeB1 (r:=401) rfl Tryz.sizeOf27 rfl rfl rfl ho83 (by rw [treeC_length hid]; decide) (show _ = treeC v83 id from rfl) ?_) ?_
         ·
          refine ⟨⟨rfl,rfl,trivial⟩,?_⟩
          refine (Ad9 (by kernel_rfl) (X_block (X9 ?_)))
          refine R9 (M9 rfl rfl (L9 rfl (Pn9 rfl rfl rfl (run_add _ _ _ _ _ (by omega))) (G9 rfl rfl (N9 ?_))))
          refine X_ren 801 700 rfl ?_
          refine X_turn (P':=datE (x.2.2.take m ++ x.2.2.drop (m + 1))) 701 rfl (fun h hp => dat_subE hp fun b hb => (List.mem_append.1 hb).elim (fun h => List.mem_of_mem_take h) (fun h => List.mem_of_mem_drop h)) ?_
          exact Xr9 (x.1 + 1,v83,x.2.2.take m ++ x.2.2.drop (m + 1)) ⟨by dsimp only; omega,ho83,by dsimp only; rw [List.length_append,List.length_take,List.length_drop]; omega,fun b hb => (List.mem_append.1 hb).elim (fun h => hx4 b (List.mem_of_mem_take h)) (fun h => hx4 b (List.mem_of_mem_drop h))⟩ (by dsimp only; omega) (a9 rfl) (a9 rfl)
         exact An9
        exact An9
       exact An9
      exact An9
     refine Z9 rfl rfl (Or9 (Pb9 (r:=401) rfl Tryz.isAgg27 rfl rfl rfl) ⟨⟨rfl,rfl,trivial⟩,?_⟩) ?_
     ·
      refine (T9 10 rfl rfl (Pu_slice (r:=700) (a:=(m + 1)) rfl Tryz.runUnderlying27 Tryz.sizeOf59 rfl rfl (fun _ h => rp9 h) (.inr ⟨_,_,_,rfl,rfl,rfl⟩) (.inl ⟨rfl,rfl⟩) hm1 (by omega)) (Y9 [0] ?_))
      refine Z9 rfl rfl (OpT_buildRows (r:=801) [] rfl rfl Tryz.runUnderlying27 Tryz.sizeOf59 Tryz.zeroValue59 rfl (by decide) rfl (by decide) (by intro r hr; simp at hr) rfl (fun v72 => ⟨⟨rfl,rfl,trivial⟩,?_⟩)) ?_
      ·
       refine AH_turn (P':=rowP 59 35 v72 (([] : List EB)).length (recC bvC ((([] : List EB)).map (fun p : EB => p.1)))) 801 rfl (fun h hp => hp) ?_
       refine (Y9 [5] ?_)
       refine Z9 rfl rfl (Oa9 (r:=801) (r2:=700) rfl Tryz.underlying27 TI.hi59 TI.hz59 TI.hs59 TI.hby59 TI.hzs59 (by decide) rfl rfl rfl rfl (fun _ h => eb_front (k:=m) (by omega) (rp9 h)) (recC_ones bvC_one) (by unfold maxLen; rw [List.length_nil]; omega) (by rw [List.length_nil]; omega) (fun v77 => ?_)) ?_
       ·
        refine ⟨⟨rfl,rfl,trivial⟩,?_⟩
        refine AH_turn (P':=rowP 59 35 v77 (x.2.2.take m).length (recC bvC ((x.2.2.take m).map (fun p : EB => p.1)))) 801 rfl (fun h hp => row_nm hp (by rw [List.length_nil,List.length_take]; omega) (List.nil_append _)) ?_
        refine (Y9 [11] ?_)
        refine Z9 rfl rfl (Oa9 (r:=801) (r2:=700) rfl Tryz.underlying27 TI.hi59 TI.hz59 TI.hs59 TI.hby59 TI.hzs59 (by decide) rfl rfl rfl rfl (fun _ h => eb_rest1 (k:=m) (by omega) (rp9 h)) (recC_ones bvC_one) (by unfold maxLen; rw [List.length_take,List.length_drop]; omega) (by rw [List.length_take,List.length_drop]; omega) (fun v83 => ?_)) ?_
        ·
         refine ⟨⟨rfl,rfl,trivial⟩,?_⟩
         refine AH_turn (P':=rowP 59 35 v83 (x.2.2.take m ++ x.2.2.drop (m + 1)).length (recC bvC ((x.2.2.take m ++ x.2.2.drop (m + 1)).map (fun p : EB => p.1)))) 801 rfl (fun h hp => row_nm hp List.length_append.symm (by rw [← recC_append,← List.map_append])) ?_
         refine AH_fact (r:=801) rfl (fun h hp => rd_one (rp9 hp)) (fun ho83 => ?_)
         refine (T9 12 rfl rfl (F9 0 rfl rfl) (Y9 [13] ?_))
         refine Ac09 rfl rfl rfl (OpT_storeB1 (r:=401) rfl Tryz.sizeOf27 rfl rfl rfl ho83 (by rw [treeC_length hid]; decide) (show _ = treeC v83 id from rfl) ?_) ?_
         ·
          refine ⟨⟨rfl,rfl,trivial⟩,?_⟩
          refine (Ad9 (by kernel_rfl) (X_block (X9 ?_)))
          refine R9 (M9 rfl rfl (L9 rfl (Pn9 rfl rfl rfl (run_add _ _ _ _ _ (by omega))) (G9 rfl rfl (N9 ?_))))
          refine X_ren 801 700 rfl ?_
          refine X_turn (P':=datE (x.2.2.take m ++ x.2.2.drop (m + 1))) 701 rfl (fun h hp => dat_subE hp fun b hb => (List.mem_append.1 hb).elim (fun h => List.mem_of_mem_take h) (fun h => List.mem_of_mem_drop h)) ?_
          exact Xr9 (x.1 + 1,v83,x.2.2.take m ++ x.2.2.drop (m + 1)) ⟨by dsimp only; omega,ho83,by dsimp only; rw [List.length_append,List.length_take,List.length_drop]; omega,fun b hb => (List.mem_append.1 hb).elim (fun h => hx4 b (List.mem_of_mem_take h)) (fun h => hx4 b (List.mem_of_mem_drop h))⟩ (by dsimp only; omega) (a9 rfl) (a9 rfl)
         exact An9
        exact An9
       exact An9
      exact An9
     exact An9
    refine Z9 rfl rfl (Or9 (Pb9 (r:=401) rfl Tryz.isAgg27 rfl rfl rfl) ⟨⟨rfl,rfl,trivial⟩,?_⟩) ?_
    ·
     refine (T9 10 rfl rfl (Pu_slice (r:=700) (a:=(m + 1)) rfl Tryz.runUnderlying27 Tryz.sizeOf59 rfl rfl (fun _ h => rp9 h) (.inr ⟨_,_,_,rfl,rfl,rfl⟩) (.inl ⟨rfl,rfl⟩) hm1 (by omega)) (Y9 [0,2] ?_))
     refine Z9 rfl rfl (OpT_buildRows (r:=801) [] rfl rfl Tryz.runUnderlying27 Tryz.sizeOf59 Tryz.zeroValue59 rfl (by decide) rfl (by decide) (by intro r hr; simp at hr) rfl (fun v72 => ⟨⟨rfl,rfl,trivial⟩,?_⟩)) ?_
     ·
      refine AH_turn (P':=rowP 59 35 v72 (([] : List EB)).length (recC bvC ((([] : List EB)).map (fun p : EB => p.1)))) 801 rfl (fun h hp => hp) ?_
      refine (Y9 [2] ?_)
      refine Z9 rfl rfl (Or9 (Pb9 (r:=401) rfl Tryz.isAgg27 rfl rfl rfl) ⟨⟨rfl,rfl,trivial⟩,?_⟩) ?_
      ·
       refine (T9 4 rfl rfl (Pu_slice (r:=700) (b:=m) rfl Tryz.runUnderlying27 Tryz.sizeOf59 rfl rfl (fun _ h => rp9 h) (.inl ⟨rfl,rfl⟩) (.inr ⟨_,_,_,rfl,rfl,rfl⟩) (Nat.zero_le _) hmle) (Y9 [5] ?_))
       refine Z9 rfl rfl (Oa9 (r:=801) (r2:=700) rfl Tryz.underlying27 TI.hi59 TI.hz59 TI.hs59 TI.hby59 TI.hzs59 (by decide) rfl rfl rfl rfl (fun _ h => eb_front (k:=m) (by omega) (rp9 h)) (recC_ones bvC_one) (by unfold maxLen; rw [List.length_nil]; omega) (by rw [List.length_nil]; omega) (fun v77 => ?_)) ?_
       ·
        refine ⟨⟨rfl,rfl,trivial⟩,?_⟩
        refine AH_turn (P':=rowP 59 35 v77 (x.2.2.take m).length (recC bvC ((x.2.2.take m).map (fun p : EB => p.1)))) 801 rfl (fun h hp => row_nm hp (by rw [List.length_nil,List.length_take]; omega) (List.nil_append _)) ?_
        refine (Y9 [11] ?_)
        refine Z9 rfl rfl (Oa9 (r:=801) (r2:=700) rfl Tryz.underlying27 TI.hi59 TI.hz59 TI.hs59 TI.hby59 TI.hzs59 (by decide) rfl rfl rfl rfl (fun _ h => eb_rest1 (k:=m) (by omega) (rp9 h)) (recC_ones bvC_one) (by unfold maxLen; rw [List.length_take,List.length_drop]; omega) (by rw [List.length_take,List.length_drop]; omega) (fun v83 => ?_)) ?_
        ·
         refine ⟨⟨rfl,rfl,trivial⟩,?_⟩
         refine AH_turn (P':=rowP 59 35 v83 (x.2.2.take m ++ x.2.2.drop (m + 1)).length (recC bvC ((x.2.2.take m ++ x.2.2.drop (m + 1)).map (fun p : EB => p.1)))) 801 rfl (fun h hp => row_nm hp List.length_append.symm (by rw [← recC_append,← List.map_append])) ?_
         refine AH_fact (r:=801) rfl (fun h hp => rd_one (rp9 hp)) (fun ho83 => ?_)
         refine (T9 12 rfl rfl (F9 0 rfl rfl) (Y9 [13] ?_))
         refine Ac09 rfl rfl rfl (OpT_storeB1 (r:=401) rfl Tryz.sizeOf27 rfl rfl rfl ho83 (by rw [treeC_length hid]; decide) (show _ = treeC v83 id from rfl) ?_) ?_
         ·
          refine ⟨⟨rfl,rfl,trivial⟩,?_⟩
          refine (Ad9 (by kernel_rfl) (X_block (X9 ?_)))
          refine R9 (M9 rfl rfl (L9 rfl (Pn9 rfl rfl rfl (run_add _ _ _ _ _ (by omega))) (G9 rfl rfl (N9 ?_))))
          refine X_ren 801 700 rfl ?_
          refine X_turn (P':=datE (x.2.2.take m ++ x.2.2.drop (m + 1))) 701 rfl (fun h hp => dat_subE hp fun b hb => (List.mem_append.1 hb).elim (fun h => List.mem_of_mem_take h) (fun h => List.mem_of_mem_drop h)) ?_
          exact Xr9 (x.1 + 1,v83,x.2.2.take m ++ x.2.2.drop (m + 1)) ⟨by dsimp only; omega,ho83,by dsimp only; rw [List.length_append,List.length_take,List.length_drop]; omega,fun b hb => (List.mem_append.1 hb).elim (fun h => hx4 b (List.mem_of_mem_take h)) (fun h => hx4 b (List.mem_of_mem_drop h))⟩ (by dsimp only; omega) (a9 rfl) (a9 rfl)
         exact An9
        exact An9
       exact An9
      exact An9
     refine Z9 rfl rfl (Or9 (Pb9 (r:=401) rfl Tryz.isAgg27 rfl rfl rfl) ⟨⟨rfl,rfl,trivial⟩,?_⟩) ?_
     ·
      refine (T9 4 rfl rfl (Pu_slice (r:=700) (b:=m) rfl Tryz.runUnderlying27 Tryz.sizeOf59 rfl rfl (fun _ h => rp9 h) (.inl ⟨rfl,rfl⟩) (.inr ⟨_,_,_,rfl,rfl,rfl⟩) (Nat.zero_le _) hmle) (Y9 [0] ?_))
      refine Z9 rfl rfl (OpT_buildRows (r:=801) [] rfl rfl Tryz.runUnderlying27 Tryz.sizeOf59 Tryz.zeroValue59 rfl (by decide) rfl (by decide) (by intro r hr; simp at hr) rfl (fun v72 => ⟨⟨rfl,rfl,trivial⟩,?_⟩)) ?_
      ·
       refine AH_turn (P':=rowP 59 35 v72 (([] : List EB)).length (recC bvC ((([] : List EB)).map (fun p : EB => p.1)))) 801 rfl (fun h hp => hp) ?_
       refine (Y9 [5] ?_)
       refine Z9 rfl rfl (Oa9 (r:=801) (r2:=700) rfl Tryz.underlying27 TI.hi59 TI.hz59 TI.hs59 TI.hby59 TI.hzs59 (by decide) rfl rfl rfl rfl (fun _ h => eb_front (k:=m) (by omega) (rp9 h)) (recC_ones bvC_one) (by unfold maxLen; rw [List.length_nil]; omega) (by rw [List.length_nil]; omega) (fun v77 => ?_)) ?_
       ·
        refine ⟨⟨rfl,rfl,trivial⟩,?_⟩
        refine AH_turn (P':=rowP 59 35 v77 (x.2.2.take m).length (recC bvC ((x.2.2.take m).map (fun p : EB => p.1)))) 801 rfl (fun h hp => row_nm hp (by rw [List.length_nil,List.length_take]; omega) (List.nil_append _)) ?_
        refine (Y9 [11] ?_)
        refine Z9 rfl rfl (Oa9 (r:=801) (r2:=700) rfl Tryz.underlying27 TI.hi59 TI.hz59 TI.hs59 TI.hby59 TI.hzs59 (by decide) rfl rfl rfl rfl (fun _ h => eb_rest1 (k:=m) (by omega) (rp9 h)) (recC_ones bvC_one) (by unfold maxLen; rw [List.length_take,List.length_drop]; omega) (by rw [List.length_take,List.length_drop]; omega) (fun v83 => ?_)) ?_
        ·
         refine ⟨⟨rfl,rfl,trivial⟩,?_⟩
         refine AH_turn (P':=rowP 59 35 v83 (x.2.2.take m ++ x.2.2.drop (m + 1)).length (recC bvC ((x.2.2.take m ++ x.2.2.drop (m + 1)).map (fun p : EB => p.1)))) 801 rfl (fun h hp => row_nm hp List.length_append.symm (by rw [← recC_append,← List.map_append])) ?_
         refine AH_fact (r:=801) rfl (fun h hp => rd_one (rp9 hp)) (fun ho83 => ?_)
         refine (T9 12 rfl rfl (F9 0 rfl rfl) (Y9 [13] ?_))
         refine Ac09 rfl rfl rfl (OpT_storeB1 (r:=401) rfl Tryz.sizeOf27 rfl rfl rfl ho83 (by rw [treeC_length hid]; decide) (show _ = treeC v83 id from rfl) ?_) ?_
         ·
          refine ⟨⟨rfl,rfl,trivial⟩,?_⟩
          refine (Ad9 (by kernel_rfl) (X_block (X9 ?_)))
          refine R9 (M9 rfl rfl (L9 rfl (Pn9 rfl rfl rfl (run_add _ _ _ _ _ (by omega))) (G9 rfl rfl (N9 ?_))))
          refine X_ren 801 700 rfl ?_
          refine X_turn (P':=datE (x.2.2.take m ++ x.2.2.drop (m + 1))) 701 rfl (fun h hp => dat_subE hp fun b hb => (List.mem_append.1 hb).elim (fun h => List.mem_of_mem_take h) (fun h => List.mem_of_mem_drop h)) ?_
          exact Xr9 (x.1 + 1,v83,x.2.2.take m ++ x.2.2.drop (m + 1)) ⟨by dsimp only; omega,ho83,by dsimp only; rw [List.length_append,List.length_take,List.length_drop]; omega,fun b hb => (List.mem_append.1 hb).elim (fun h => hx4 b (List.mem_of_mem_take h)) (fun h => hx4 b (List.mem_of_mem_drop h))⟩ (by dsimp only; omega) (a9 rfl) (a9 rfl)
         exact An9
        exact An9
       exact An9
      exact An9
     exact An9
    exact An9
   exact An9
  ·
   refine W_exit (X_then_exit (X_then_exit (X_block_exit (X9 ?_))))
   refine Q9 (Q9 (R9 (G9 rfl rfl (N9 (X9 ?_)))))
   refine W_block ?_
   obtain ⟨w1,hw1⟩ : ∃ w1,w1 = x.2.1:=⟨_,rfl⟩
   rw [← hw1]
   refine W_loop (α:=Nat × List EB) (fun y => [(1,w),(2,u),(3,sV p),(4,q),(5,.int .i64 off),(6,.int .i64 n),(15,v44),(16,.pointer (some ⟨g401,0,none⟩)),(20,.int .i64 (y.1 : Int))]) (fun y => [(0,F),(710,rowR itC 2 38 v44 xs),(700,rowP 59 35 w1 (y.2).length (recC bvC ((y.2).map (fun p : EB => p.1)))),(701,datE y.2),(401,blk g401 31 (treeC w1 id))]) (fun y => y.1 ≤ ts.length ∧ y.2.length ≤ 1000000000000 ∧ (∀ b ∈ y.2,b.2.length ≤ 1000000000)) (fun y => ts.length - y.1) ((0,x.2.2)) ⟨Nat.zero_le _,hx3,hx4⟩ (a9 rfl) (a9 rfl) (fun y hy => ?_)
   obtain ⟨hy1,hy2,hy3⟩:=hy
   refine Q9 (Q9 (R9 (M9 rfl rfl (M9 rfl rfl (L9 rfl (Pl9 (r:=0) rfl Tryz.runUnderlying61 rfl rfl hU) (L9 rfl (Pn9 rfl rfl rfl (run_lss _ _ _ _ _ _)) (M9 rfl rfl (Lg9 rfl rfl rfl rfl (by decide) (fun hb => (F9 0 rfl rfl)) (Lg9 rfl rfl rfl rfl (by decide) (fun hb => (Pb9 (r:=401) rfl Tryz.isAgg27 (ev_gv rfl hb) rfl rfl)) (Lg9 rfl rfl rfl rfl (by decide) (fun hb => (Pl9 (r:=700) rfl Tryz.runUnderlying27 (ev_gv rfl hb) rfl (fun _ h => rp9 h))) (Lg9 rfl rfl rfl rfl (by decide) (fun hb => (Pn9 rfl (ev_gv rfl hb) rfl (run_gtr _ _ _ _ _ _))) (L9 rfl (Pu_and rfl rfl rfl) (N9 (X9 ?_))))))))))))))
   refine C9 rfl (fun hc94 => ?_) (fun hc94 => ?_)
   ·
    have hlt2 : y.1 < ts.length ∧ 0 < y.2.length:=by simp only [Bool.and_eq_true,decide_eq_true_eq] at hc94; omega
    refine K9 (X9 ?_)
    refine Q9 ?_
    refine W_block ?_
    refine Q9 ?_
    refine W_draw (N:=9) (by kernel_rfl) rfl [(0,_),(401,_),(700,_)] ⟨rfl,rfl,rfl,trivial⟩ ?_
    refine (T9 0 rfl rfl (Pm9 rfl rfl) (T9 1 rfl rfl (Pm9 rfl rfl) (T9 2 rfl rfl (Pu_idxS1 (r:=0) rfl Tryz.runUnderlying61 Tryz.sizeOf3 rfl rfl rfl hU (by omega)) (T9 3 rfl rfl (Py9 (r:=0) rfl Tryz.isAgg3 rfl rfl hU (is_at (k:=y.1) hlt2.1)) (T9 4 rfl rfl (F9 0 rfl rfl) (T9 5 rfl rfl (Pb9 (r:=401) rfl Tryz.isAgg27 rfl rfl rfl) (T9 6 rfl rfl (Pl9 (r:=700) rfl Tryz.runUnderlying27 rfl rfl (fun _ h => rp9 h)) (Y9 [7] ?_))))))))
    refine Z9 rfl rfl (Oc9 800 [0,401,700,701,710] [] rfl Tryz.call15 rfl rfl rfl (by decide) (by decide) (within_spec (ts.getD y.1 0) ((y.2.length : Nat) : Int) (by omega) (by omega) _) (fun v104 Ps104 hR104 => ?_)) ?_
    ·
     obtain ⟨rfl,rfl⟩:=hR104
     refine ⟨⟨rfl,rfl,rfl,trivial⟩,?_⟩
     obtain ⟨m,hm,hml⟩ : ∃ m : Nat,(ts.getD y.1 0) % ((y.2.length : Nat) : Int) = (m : Int) ∧ m < y.2.length:=⟨((ts.getD y.1 0) % ((y.2.length : Nat) : Int)).toNat,by have:=Int.emod_nonneg (ts.getD y.1 0) (show ((y.2.length : Nat) : Int) ≠ 0 by omega); omega,by have h1:=Int.emod_nonneg (ts.getD y.1 0) (show ((y.2.length : Nat) : Int) ≠ 0 by omega); have h2:=Int.emod_lt_of_pos (ts.getD y.1 0) (show (0 : Int) < ((y.2.length : Nat) : Int) by omega); omega⟩
     rw [hm]
     refine (T9 8 rfl rfl (Pg9 rfl rfl) (Ad9 (by kernel_rfl) (X9 ?_)))
     refine Q9 ?_
     obtain ⟨b,hb⟩ : ∃ b,y.2[m]? = some b:=⟨_,List.getElem?_eq_getElem hml⟩
     have hbm:=List.mem_of_getElem? hb
     have hbl:=hy3 b hbm
     refine R9 (Lc9 rfl rfl (by decide) (OpT_buildOnes (r:=801) [] rfl rfl Tryz.runUnderlying36 Tryz.sizeOf5 Tryz.zeroValue5 rfl rfl (by decide) rfl (by simp [Value.cells]) (fun v105 => (L9 rfl (F9 0 rfl rfl) (L9 rfl (Pb9 (r:=401) rfl Tryz.isAgg27 rfl rfl rfl) (M9 rfl rfl (L9 rfl (Pi9 (r:=700) rfl Tryz.runUnderlying27 Tryz.sizeOf59 rfl rfl rfl (fun _ h => rp9 h) (by omega)) (L9 rfl (Pu_fieldAddrE (off:=32) rfl rfl (by kernel_rfl)) (L9 rfl (Py9 (r:=700) rfl Tryz.isAgg36 rfl rfl (fun _ h => rp9 h) (eb_data (k:=m) hb)) (Lc9 rfl rfl (by decide) (Oa9 (r:=801) (r2:=701) rfl Tryz.underlying36 TI.hi5 TI.hz5 TI.hs5 TI.hby5 TI.hzs5 (by decide) rfl rfl rfl rfl (fun h hp => hp b hbm) (bs_one _) (by unfold maxLen; rw [Nat.zero_add]; omega) (by rw [Nat.zero_add]; omega) (fun v112 => ?_))))))))))))
     refine Lt9 (P':=rowB 5 v112 b.2) (r:=801) rfl (fun h hp => rowB_mk hp (Nat.zero_add _) (List.nil_append _)) ?_
     refine WL_fact (r:=801) rfl (fun h hp => rd_one (rp9 hp)) (fun ho112 => ?_)
     refine (G9 rfl rfl (N9 (X9 ?_)))
     refine Q9 (Q9 (R9 (M9 rfl rfl (L9 rfl (Pl9 (r:=801) rfl Tryz.runUnderlying36 rfl rfl rowB_rd) (L9 rfl (Pn9 rfl rfl rfl (run_gtr _ _ _ _ _ _)) (N9 (X9 ?_)))))))
     refine C9 rfl (fun hc115 => ?_) (fun hc115 => ?_)
     ·
      have hlt3 : 0 < b.2.length:=by have:=of_decide_eq_true hc115; omega
      refine R9 (M9 rfl rfl (M9 rfl rfl (M9 rfl rfl (L9 rfl (Pu_idxS1 (r:=0) rfl Tryz.runUnderlying61 Tryz.sizeOf3 rfl rfl rfl hU (by omega)) (L9 rfl (Py9 (r:=0) rfl Tryz.isAgg3 rfl rfl hU (is_at (k:=y.1) hlt2.1)) (L9 rfl (Pn9 rfl rfl rfl (run_tdiv _ 7 _ _ _ (by decide))) (M9 rfl rfl (L9 rfl (Pl9 (r:=801) rfl Tryz.runUnderlying36 rfl rfl rowB_rd) (Lc9 rfl rfl (by decide) (Oc9 900 [0,401,700,701,710,801] [] rfl Tryz.call15 rfl rfl rfl (by decide) (by decide) (within_spec (IntKind.i64.wrap ((ts.getD y.1 0).tdiv 7)) ((b.2.length : Nat) : Int) (by omega) (by omega) _) (fun v124 Ps124 hR124 => ?_)))))))))))
      obtain ⟨rfl,rfl⟩:=hR124
      obtain ⟨m3,hm3,hml3⟩ : ∃ m3 : Nat,(IntKind.i64.wrap ((ts.getD y.1 0).tdiv 7)) % ((b.2.length : Nat) : Int) = (m3 : Int) ∧ m3 < b.2.length:=⟨((IntKind.i64.wrap ((ts.getD y.1 0).tdiv 7)) % ((b.2.length : Nat) : Int)).toNat,by have:=Int.emod_nonneg (IntKind.i64.wrap ((ts.getD y.1 0).tdiv 7)) (show ((b.2.length : Nat) : Int) ≠ 0 by omega); omega,by have h1:=Int.emod_nonneg (IntKind.i64.wrap ((ts.getD y.1 0).tdiv 7)) (show ((b.2.length : Nat) : Int) ≠ 0 by omega); have h2:=Int.emod_lt_of_pos (IntKind.i64.wrap ((ts.getD y.1 0).tdiv 7)) (show (0 : Int) < ((b.2.length : Nat) : Int) by omega); omega⟩
      rw [hm3]
      refine (L9 rfl (Pu_idxS1 (r:=801) rfl Tryz.runUnderlying36 Tryz.sizeOf5 rfl rfl rfl rowB_rd (by omega)) (L9 rfl (Py9 (r:=801) rfl Tryz.isAgg5 rfl rfl rowB_rd (bs_at1 (by omega))) (L9 rfl (Pn9 rfl rfl rfl (run_addU8 (at0 b.2 m3) 1 _ _ _)) (L9 rfl (Pu_idxS1 (r:=801) rfl Tryz.runUnderlying36 Tryz.sizeOf5 rfl rfl rfl rowB_rd (by omega)) (Lc09 rfl rfl (OpT_storeS1 (r:=801) rfl Tryz.sizeOf5 rfl rfl rfl (show (bv (at0 b.2 m3 + 1)).oneCell' = true from rfl) (by show _ < (bs b.2).length; rw [bs_length]; omega) rfl ?_))))))
      refine Lt9 (P':=rowB 5 v112 (b.2.set m3 (at0 b.2 m3 + 1))) (r:=801) rfl (fun h hp => rowB_mk hp (by rw [List.length_set]) (by rw [← bs_setI]; rfl)) ?_
      refine (N9 (X9 ?_))
      refine Q9 ?_
      obtain ⟨dd,hdd⟩ : ∃ dd : List UInt8,dd = b.2.set m3 (at0 b.2 m3 + 1):=⟨_,rfl⟩
      refine Wt9 (P':=rowB 5 v112 dd) 801 rfl (fun h hp => by rw [hdd]; exact hp) ?_
      have hddl : dd.length ≤ 1000000000:=by rw [hdd]; rw [List.length_set]; exact hbl
      refine R9 (L9 rfl (F9 0 rfl rfl) (L9 rfl (Pb9 (r:=401) rfl Tryz.isAgg27 rfl rfl rfl) (M9 rfl rfl (M9 rfl rfl (L9 rfl (Pi9 (r:=700) rfl Tryz.runUnderlying27 Tryz.sizeOf59 rfl rfl rfl (fun _ h => rp9 h) (by omega)) (L9 rfl (Pu_fieldAddrE (off:=32) rfl rfl (by kernel_rfl)) (Lc09 rfl rfl (OpT_storeS1 (r:=700) rfl Tryz.sizeOf36 rfl rfl rfl ho112 (by rw [ebC_len]; omega) (eb_setD (k:=m) hb v112 ho112 dd) ?_))))))))
      refine Lt9 (P':=rowP 59 35 w1 (y.2.set m (setD v112 ho112 dd b)).length (recC bvC ((y.2.set m (setD v112 ho112 dd b)).map (fun p : EB => p.1)))) (r:=700) rfl (fun h hp => row_nm hp (by rw [List.length_set]) rfl) ?_
      refine (N9 (X9 ?_))
      refine Q9 ?_
      refine W_join [701,801] 701 (datE (y.2.set m (setD v112 ho112 dd b))) rfl (by decide) (fun h hs => datE_set hs) ?_
      refine R9 (M9 rfl rfl (M9 rfl rfl (L9 rfl (Pu_idxS1 (r:=0) rfl Tryz.runUnderlying61 Tryz.sizeOf3 rfl rfl rfl hU (by omega)) (L9 rfl (Py9 (r:=0) rfl Tryz.isAgg3 rfl rfl hU (is_at (k:=y.1) hlt2.1)) (L9 rfl (Pn9 rfl rfl rfl (run_tmod _ _ _ _ _ (by omega))) (L9 rfl (Pn9 rfl rfl rfl (run_eql _ _ _ _ _ _)) (N9 (X9 ?_))))))))
      refine C9 rfl (fun hc140 => ?_) (fun hc140 => ?_)
      ·
       refine W_draw (N:=8) (by kernel_rfl) rfl [(0,_),(401,_)] ⟨rfl,rfl,trivial⟩ ?_
       refine (T9 0 rfl rfl (F9 0 rfl rfl) (T9 1 rfl rfl (Pb9 (r:=401) rfl Tryz.isAgg27 rfl rfl rfl) (T9 2 rfl rfl (Pm9 rfl rfl) (T9 3 rfl rfl (Pm9 rfl rfl) (Y9 [4] ?_)))))
       refine Z9 rfl rfl (Oc9 1000 [0,401,700,701,710,801] [] rfl Tryz.call26 rfl rfl rfl (by decide) (by decide) (refSum_spec v112 dd hddl _ (rs9 3 rfl (fun h hp => hp (setD v112 ho112 dd b) (set_mem hb)))) (fun v145 Ps145 hR145 => ?_)) ?_
       ·
        obtain ⟨rfl,rfl⟩:=hR145
        refine ⟨⟨rfl,rfl,trivial⟩,?_⟩
        refine (Y9 [5] ?_)
        refine Z9 rfl rfl (Or9 (Pi9 (r:=700) rfl Tryz.runUnderlying27 Tryz.sizeOf59 rfl rfl rfl (fun _ h => rp9 h) (by rw [List.length_set]; omega)) ⟨⟨rfl,rfl,trivial⟩,?_⟩) ?_
        ·
         refine (T9 6 rfl rfl (Pu_fieldAddrE (off:=0) rfl rfl (by kernel_rfl)) (Y9 [7] ?_))
         refine Ac09 rfl rfl rfl (OpT_storeS (r:=700) rfl (sz_id (sha_length dd)) rfl rfl rfl (show 0 < (bs (sha dd)).length by rw [bs_length,sha_length]; decide) (by rw [ebC_len,List.length_set]; show _ + (bs (sha dd)).length ≤ _; rw [bs_length,sha_length]; omega) (bs_one _) (show over _ (m * 35 + 0) (bs (sha dd)) = _ from eb_setK (k:=m) (es:=y.2.set m (setD v112 ho112 dd b)) (b:=setD v112 ho112 dd b) (set_get hb) (sha dd) (sha_length _)) ?_) ?_
         ·
          refine ⟨⟨rfl,rfl,trivial⟩,?_⟩
          refine AH_turn (P':=rowP 59 35 w1 (y.2.set m (setK (sha dd) (sha_length _) (setD v112 ho112 dd b))).length (recC bvC ((y.2.set m (setK (sha dd) (sha_length _) (setD v112 ho112 dd b))).map (fun p : EB => p.1)))) 700 rfl (fun h hp => row_nm hp (by simp only [List.length_set]) (by rw [List.set_set])) ?_
          refine AH_turn (P':=datE (y.2.set m (setK (sha dd) (sha_length _) (setD v112 ho112 dd b)))) 701 rfl (fun h hp => datE_key hb hp) ?_
          refine (Ad9 (by kernel_rfl) (X_block (X9 ?_)))
          refine R9 (M9 rfl rfl (L9 rfl (Pn9 rfl rfl rfl (run_add _ _ _ _ _ (by omega))) (G9 rfl rfl (N9 ?_))))
          exact Xr9 (y.1 + 1,y.2.set m (setK (sha dd) (sha_length _) (setD v112 ho112 dd b))) ⟨by dsimp only; omega,by dsimp only; rw [List.length_set]; exact hy2,fun c hc => (List.mem_or_eq_of_mem_set hc).elim (hy3 c) (fun h => by rw [h]; exact hddl)⟩ (by dsimp only; omega) (a9 rfl) (a9 rfl)
         exact An9
        exact An9
       exact An9
      ·
       refine K9 (X_block (X9 ?_))
       refine R9 (M9 rfl rfl (L9 rfl (Pn9 rfl rfl rfl (run_add _ _ _ _ _ (by omega))) (G9 rfl rfl (N9 ?_))))
       exact Xr9 (y.1 + 1,y.2.set m (setD v112 ho112 dd b)) ⟨by dsimp only; omega,by dsimp only; rw [List.length_set]; exact hy2,fun c hc => (List.mem_or_eq_of_mem_set hc).elim (hy3 c) (fun h => by rw [h]; exact hddl)⟩ (by dsimp only; omega) (a9 rfl) (a9 rfl)
     ·
      refine K9 (X9 ?_)
      refine Q9 ?_
      obtain ⟨dd,hdd⟩ : ∃ dd : List UInt8,dd = b.2:=⟨_,rfl⟩
      refine Wt9 (P':=rowB 5 v112 dd) 801 rfl (fun h hp => by rw [hdd]; exact hp) ?_
      have hddl : dd.length ≤ 1000000000:=by rw [hdd]; exact hbl
      refine R9 (L9 rfl (F9 0 rfl rfl) (L9 rfl (Pb9 (r:=401) rfl Tryz.isAgg27 rfl rfl rfl) (M9 rfl rfl (M9 rfl rfl (L9 rfl (Pi9 (r:=700) rfl Tryz.runUnderlying27 Tryz.sizeOf59 rfl rfl rfl (fun _ h => rp9 h) (by omega)) (L9 rfl (Pu_fieldAddrE (off:=32) rfl rfl (by kernel_rfl)) (Lc09 rfl rfl (OpT_storeS1 (r:=700) rfl Tryz.sizeOf36 rfl rfl rfl ho112 (by rw [ebC_len]; omega) (eb_setD (k:=m) hb v112 ho112 dd) ?_))))))))
      refine Lt9 (P':=rowP 59 35 w1 (y.2.set m (setD v112 ho112 dd b)).length (recC bvC ((y.2.set m (setD v112 ho112 dd b)).map (fun p : EB => p.1)))) (r:=700) rfl (fun h hp => row_nm hp (by rw [List.length_set]) rfl) ?_
      refine (N9 (X9 ?_))
      refine Q9 ?_
      refine W_join [701,801] 701 (datE (y.2.set m (setD v112 ho112 dd b))) rfl (by decide) (fun h hs => datE_set hs) ?_
      refine R9 (M9 rfl rfl (M9 rfl rfl (L9 rfl (Pu_idxS1 (r:=0) rfl Tryz.runUnderlying61 Tryz.sizeOf3 rfl rfl rfl hU (by omega)) (L9 rfl (Py9 (r:=0) rfl Tryz.isAgg3 rfl rfl hU (is_at (k:=y.1) hlt2.1)) (L9 rfl (Pn9 rfl rfl rfl (run_tmod _ _ _ _ _ (by omega))) (L9 rfl (Pn9 rfl rfl rfl (run_eql _ _ _ _ _ _)) (N9 (X9 ?_))))))))
      refine C9 rfl (fun hc140 => ?_) (fun hc140 => ?_)
      ·
       refine W_draw (N:=8) (by kernel_rfl) rfl [(0,_),(401,_)] ⟨rfl,rfl,trivial⟩ ?_
       refine (T9 0 rfl rfl (F9 0 rfl rfl) (T9 1 rfl rfl (Pb9 (r:=401) rfl Tryz.isAgg27 rfl rfl rfl) (T9 2 rfl rfl (Pm9 rfl rfl) (T9 3 rfl rfl (Pm9 rfl rfl) (Y9 [4] ?_)))))
       refine Z9 rfl rfl (Oc9 900 [0,401,700,701,710,801] [] rfl Tryz.call26 rfl rfl rfl (by decide) (by decide) (refSum_spec v112 dd hddl _ (rs9 3 rfl (fun h hp => hp (setD v112 ho112 dd b) (set_mem hb)))) (fun v145 Ps145 hR145 => ?_)) ?_
       ·
        obtain ⟨rfl,rfl⟩:=hR145
        refine ⟨⟨rfl,rfl,trivial⟩,?_⟩
        refine (Y9 [5] ?_)
        refine Z9 rfl rfl (Or9 (Pi9 (r:=700) rfl Tryz.runUnderlying27 Tryz.sizeOf59 rfl rfl rfl (fun _ h => rp9 h) (by rw [List.length_set]; omega)) ⟨⟨rfl,rfl,trivial⟩,?_⟩) ?_
        ·
         refine (T9 6 rfl rfl (Pu_fieldAddrE (off:=0) rfl rfl (by kernel_rfl)) (Y9 [7] ?_))
         refine Ac09 rfl rfl rfl (OpT_storeS (r:=700) rfl (sz_id (sha_length dd)) rfl rfl rfl (show 0 < (bs (sha dd)).length by rw [bs_length,sha_length]; decide) (by rw [ebC_len,List.length_set]; show _ + (bs (sha dd)).length ≤ _; rw [bs_length,sha_length]; omega) (bs_one _) (show over _ (m * 35 + 0) (bs (sha dd)) = _ from eb_setK (k:=m) (es:=y.2.set m (setD v112 ho112 dd b)) (b:=setD v112 ho112 dd b) (set_get hb) (sha dd) (sha_length _)) ?_) ?_
         ·
          refine ⟨⟨rfl,rfl,trivial⟩,?_⟩
          refine AH_turn (P':=rowP 59 35 w1 (y.2.set m (setK (sha dd) (sha_length _) (setD v112 ho112 dd b))).length (recC bvC ((y.2.set m (setK (sha dd) (sha_length _) (setD v112 ho112 dd b))).map (fun p : EB => p.1)))) 700 rfl (fun h hp => row_nm hp (by simp only [List.length_set]) (by rw [List.set_set])) ?_
          refine AH_turn (P':=datE (y.2.set m (setK (sha dd) (sha_length _) (setD v112 ho112 dd b)))) 701 rfl (fun h hp => datE_key hb hp) ?_
          refine (Ad9 (by kernel_rfl) (X_block (X9 ?_)))
          refine R9 (M9 rfl rfl (L9 rfl (Pn9 rfl rfl rfl (run_add _ _ _ _ _ (by omega))) (G9 rfl rfl (N9 ?_))))
          exact Xr9 (y.1 + 1,y.2.set m (setK (sha dd) (sha_length _) (setD v112 ho112 dd b))) ⟨by dsimp only; omega,by dsimp only; rw [List.length_set]; exact hy2,fun c hc => (List.mem_or_eq_of_mem_set hc).elim (hy3 c) (fun h => by rw [h]; exact hddl)⟩ (by dsimp only; omega) (a9 rfl) (a9 rfl)
         exact An9
        exact An9
       exact An9
      ·
       refine K9 (X_block (X9 ?_))
       refine R9 (M9 rfl rfl (L9 rfl (Pn9 rfl rfl rfl (run_add _ _ _ _ _ (by omega))) (G9 rfl rfl (N9 ?_))))
       exact Xr9 (y.1 + 1,y.2.set m (setD v112 ho112 dd b)) ⟨by dsimp only; omega,by dsimp only; rw [List.length_set]; exact hy2,fun c hc => (List.mem_or_eq_of_mem_set hc).elim (hy3 c) (fun h => by rw [h]; exact hddl)⟩ (by dsimp only; omega) (a9 rfl) (a9 rfl)
    exact An9
   ·
    refine W_exit (X_then_exit (X_then_exit (X_block_exit (X9 ?_))))
    refine Q9 (R9 (M9 rfl rfl (Lc9 rfl rfl (by decide) (OpT_buildOnes (r:=751) (ss [p,[47],[47,97],[47,97,47,98]]) rfl rfl Tryz.runUnderlying63 Tryz.sizeOf9 Tryz.zeroValue9 rfl rfl (by decide) rfl (ss_cells _) (fun v149 => ?_)))))
    refine Lt9 (P':=rowS 9 v149 ([p,[47],[47,97],[47,97,47,98]])) (r:=751) rfl (fun h hp => hp) ?_
    refine (G9 rfl rfl (N9 (X9 ?_)))
    refine Q9 (Q9 (R9 (G9 rfl rfl (N9 (X9 ?_)))))
    refine W_block ?_
    obtain ⟨es,hes⟩ : ∃ es : List EB,es = y.2:=⟨_,rfl⟩
    rw [← hes] at hy2 hy3
    rw [← hes]
    refine W_fact (r:=700) rfl (fun h hp => rd_one (rp9 hp)) (fun (hw1o : w1.oneCell' = true) => ?_)
    refine W_ren 751 720 rfl ?_
    refine W_loop (α:=Nat × Value × List (List UInt8)) (fun a => [(4,q),(5,.int .i64 off),(6,.int .i64 n),(15,v44),(16,.pointer (some ⟨g401,0,none⟩)),(23,a.2.1),(24,.int .i64 (a.1 : Int))]) (fun a => [(0,F),(710,rowR itC 2 38 v44 xs),(700,rowP 59 35 w1 (es).length (recC bvC ((es).map (fun p : EB => p.1)))),(701,datE es),(401,blk g401 31 (treeC w1 id)),(720,rowS 9 a.2.1 a.2.2)]) (fun a => a.1 ≤ xs.length ∧ a.2.2.length ≤ a.1 + 4 ∧ a.1 ≤ 5 ∧ (∀ z ∈ a.2.2,z.length ≤ 1000000000)) (fun a => xs.length - a.1) ((0,v149,[p,[47],[47,97],[47,97,47,98]])) ⟨Nat.zero_le _,Nat.le_refl _,Nat.zero_le _,four_short hlim.1⟩ (a9 rfl) (a9 rfl) (fun a ha => ?_)
    obtain ⟨ha1,ha2,ha5,ha3⟩:=ha
    refine Q9 (Q9 (R9 (M9 rfl rfl (M9 rfl rfl (L9 rfl (Pl9 (r:=710) rfl Tryz.runUnderlying24 rfl rfl rowR_rd) (L9 rfl (Pn9 rfl rfl rfl (run_lss _ _ _ _ _ _)) (M9 rfl rfl (Lg9 rfl rfl rfl rfl (by decide) (fun hb => (Pm9 rfl rfl)) (Lg9 rfl rfl rfl rfl (by decide) (fun hb => (Pn9 rfl (ev_gv rfl hb) rfl (run_lss _ _ _ _ _ _))) (L9 rfl (Pu_and rfl rfl rfl) (N9 (X9 ?_))))))))))))
    refine C9 rfl (fun hc157 => ?_) (fun hc157 => ?_)
    ·
     have hlt4 : a.1 < xs.length ∧ a.1 < 5:=by simp only [Bool.and_eq_true,decide_eq_true_eq] at hc157; omega
     refine K9 (X9 ?_)
     refine Q9 ?_
     refine W_block ?_
     refine R9 (M9 rfl rfl (M9 rfl rfl (M9 rfl rfl (L9 rfl (Pi9 (r:=710) rfl Tryz.runUnderlying24 Tryz.sizeOf38 rfl rfl rfl rowR_rd (by omega)) (L9 rfl (Pu_fieldAddrE (off:=0) rfl rfl (by kernel_rfl)) (L9 rfl (Py9 (r:=710) rfl Tryz.isAgg9 rfl rfl rowR_rd (its_get (k:=a.1) (j:=0) hlt4.1 (by decide))) (Lc9 rfl rfl (by decide) (OpT_buildOnes (r:=752) [sV (xs.getD a.1 it0).1] rfl rfl Tryz.runUnderlying63 Tryz.sizeOf9 Tryz.zeroValue9 rfl rfl (by decide) rfl (by simp [Value.cells]) (fun v166 => (Lc9 rfl rfl (by decide) (Oa9 (r:=720) (r2:=752) rfl Tryz.underlying63 TI.hi9 TI.hz9 TI.hs9 TI.hby9 TI.hzs9 (by decide) rfl rfl rfl rfl (fun _ h => rp9 h) (by intro u hu; simp at hu; rw [hu]; rfl) (by unfold maxLen; omega) (by omega) (fun v167 => ?_))))))))))))
     refine Lt9 (P':=rowS 9 v167 (a.2.2 ++ [(xs.getD a.1 it0).1])) (r:=720) rfl (fun h hp => row_nms hp) ?_
     refine (G9 rfl rfl (N9 (X_block (X9 ?_))))
     refine R9 (M9 rfl rfl (L9 rfl (Pn9 rfl rfl rfl (run_add _ _ _ _ _ (by omega))) (G9 rfl rfl (N9 ?_))))
     exact Xr9 (a.1 + 1,v167,a.2.2 ++ [(xs.getD a.1 it0).1]) ⟨by dsimp only; omega,by dsimp only; rw [List.length_append,List.length_singleton]; omega,by dsimp only; omega,fun z hz => (List.mem_append.1 hz).elim (ha3 z) (fun h => by rw [List.mem_singleton.1 h]; have:=(hxs _ (it_get hlt4.1)).1; omega)⟩ (by dsimp only; omega) (a9 rfl) (a9 rfl)
    ·
     refine W_exit (X_then_exit (X_then_exit (X_block_exit (X9 ?_))))
     refine Q9 (Q9 (R9 (M9 rfl rfl (L9 rfl (Pl9 (r:=0) rfl Tryz.runUnderlying61 rfl rfl hQ) (L9 rfl (Pn9 rfl rfl rfl (run_gtr _ _ _ _ _ _)) (N9 (X9 ?_)))))))
     refine C9 rfl (fun hc170 => ?_) (fun hc170 => ?_)
     ·
      refine Q9 (R9 (M9 rfl rfl (Lc9 rfl rfl (by decide) (Oc9 800 [0,401,700,701,710,720] [] rfl Tryz.call28 rfl rfl rfl (by decide) (by decide) (name_spec q ns _ (rs9 0 rfl hQ)) (fun v173 Ps173 hR173 => ?_)))))
      obtain ⟨rfl,rfl⟩:=hR173
      refine (Lc9 rfl rfl (by decide) (OpT_buildOnes (r:=801) (ss [nameN ns]) rfl rfl Tryz.runUnderlying63 Tryz.sizeOf9 Tryz.zeroValue9 rfl rfl (by decide) rfl (ss_cells _) (fun v174 => ?_)))
      refine Lt9 (P':=rowS 9 v174 [nameN ns]) (r:=801) rfl (fun h hp => hp) ?_
      refine (Lc9 rfl rfl (by decide) (Oc9 900 [0,401,700,701,710,720,801] [] rfl Tryz.call27 rfl rfl rfl (by decide) (by decide) (join_rspec v174 [nameN ns] (jn_one ns) _ (rs9 6 rfl rowS_rd)) (fun v175 Ps175 hR175 => ?_)))
      obtain ⟨rfl,rfl⟩:=hR175
      refine (M9 rfl rfl (L9 rfl (Pe9 rfl rfl rfl) (L9 rfl (Pe9 rfl rfl rfl) (G9 rfl rfl (G9 rfl rfl (N9 (X9 ?_)))))))
      refine R9 (M9 rfl rfl (M9 rfl rfl (Lc9 rfl rfl (by decide) (OpT_buildOnes (r:=901) [sV (joinN [nameN ns]).1] rfl rfl Tryz.runUnderlying63 Tryz.sizeOf9 Tryz.zeroValue9 rfl rfl (by decide) rfl (by simp [Value.cells]) (fun v180 => (Lc9 rfl rfl (by decide) (Oa9 (r:=720) (r2:=901) rfl Tryz.underlying63 TI.hi9 TI.hz9 TI.hs9 TI.hby9 TI.hzs9 (by decide) rfl rfl rfl rfl (fun _ h => rp9 h) (by intro u hu; simp at hu; rw [hu]; rfl) (by unfold maxLen; omega) (by omega) (fun v181 => ?_))))))))
      refine Lt9 (P':=rowS 9 v181 (a.2.2 ++ [(joinN [nameN ns]).1])) (r:=720) rfl (fun h hp => row_nms hp) ?_
      refine (G9 rfl rfl (N9 (X9 ?_)))
      refine Q9 (Q9 (R9 (G9 rfl rfl (N9 (X9 ?_)))))
      refine W_block ?_
      obtain ⟨rws,hrw⟩ : ∃ rws : List (List UInt8),rws = a.2.2 ++ [(joinN [nameN ns]).1]:=⟨_,rfl⟩
      obtain ⟨vr,hvr⟩ : ∃ vr : Value,vr = v181:=⟨_,rfl⟩
      have hrl : rws.length ≤ 100 ∧ ∀ z ∈ rws,z.length ≤ 1000000000:=by rw [hrw]; exact ⟨by rw [List.length_append,List.length_singleton]; omega,fun z hz => (List.mem_append.1 hz).elim (ha3 z) (fun h => by rw [List.mem_singleton.1 h]; exact join_one_len ns)⟩
      rw [← hvr,← hrw]
      refine W_loop (α:=Nat) (fun z => [(5,.int .i64 off),(6,.int .i64 n),(16,.pointer (some ⟨g401,0,none⟩)),(23,vr),(27,.int .i64 (z : Int))]) (fun z => [(0,F),(710,rowR itC 2 38 v44 xs),(700,rowP 59 35 w1 (es).length (recC bvC ((es).map (fun p : EB => p.1)))),(701,datE es),(401,blk g401 31 (treeC w1 id)),(720,rowS 9 vr rws)]) (fun z => z ≤ rws.length) (fun z => rws.length - z) (0) (Nat.zero_le _) (a9 rfl) (a9 rfl) (fun z hz => ?_)
      refine Q9 (Q9 (R9 (M9 rfl rfl (M9 rfl rfl (L9 rfl (Pl9 (r:=720) rfl Tryz.runUnderlying63 rfl rfl rowS_rd) (L9 rfl (Pn9 rfl rfl rfl (run_lss _ _ _ _ _ _)) (N9 (X9 ?_))))))))
      refine C9 rfl (fun hc185 => ?_) (fun hc185 => ?_)
      ·
       have hlt5 : z < rws.length:=by have:=of_decide_eq_true hc185; omega
       have hzl : (rws.getD z []).length ≤ 1000000000:=hrl.2 _ (getD_mem' hlt5)
       refine K9 (X9 ?_)
       refine Q9 ?_
       refine W_block ?_
       refine Q9 ?_
       refine W_draw (N:=22) (by kernel_rfl) rfl [(0,_),(401,_),(720,_)] ⟨rfl,rfl,rfl,trivial⟩ ?_
       refine (T9 0 rfl rfl (Px9 (r:=401) rfl Tryz.isAgg31 Tryz.sizeOf31 rfl rfl (treeC_length hid) (load_all (treeC_length hid))) (T9 1 rfl rfl (Pm9 rfl rfl) (T9 2 rfl rfl (Pm9 rfl rfl) (T9 3 rfl rfl (Pu_idxS1 (r:=720) rfl Tryz.runUnderlying63 Tryz.sizeOf9 rfl rfl rfl rowS_rd (by omega)) (T9 4 rfl rfl (Py9 (r:=720) rfl Tryz.isAgg9 rfl rfl rowS_rd (ss_at (k:=z) hlt5)) (T9 5 rfl rfl (Pm9 rfl rfl) (T9 6 rfl rfl (Pm9 rfl rfl) (Y9 [7] ?_))))))))
       refine Z9 rfl rfl (Oc9 1000 [0,401,700,701,710,720] [] rfl Tryz.call29 rfl rfl rfl (by decide) (by decide) (asks_spec es w1 hw1o id hid hy2 hy3 _ (rs9 2 rfl (fun _ h => rp9 h)) (ds9 3 rfl (fun _ h => h)) (ts9 0 rfl hT) (rws.getD z []) hzl off n) (fun v195 Ps195 hR195 => ?_)) ?_
       ·
        obtain ⟨rfl,rfl⟩:=hR195
        refine ⟨⟨rfl,rfl,rfl,trivial⟩,?_⟩
        refine (T9 8 rfl rfl (Pu_un rfl rfl (run_not _)) (T9 9 rfl rfl (Pm9 rfl rfl) (AH_takeT 10 rfl (by kernel_rfl) (by kernel_rfl) (by kernel_rfl) rfl rfl rfl rfl rfl (by decide) (Px9 (r:=401) rfl Tryz.isAgg31 Tryz.sizeOf31 rfl rfl (treeC_length hid) (load_all (treeC_length hid))) (AH_takeT 11 rfl (by kernel_rfl) (by kernel_rfl) (by kernel_rfl) rfl rfl rfl rfl rfl (by decide) (Pm9 rfl rfl) (AH_takeT 12 rfl (by kernel_rfl) (by kernel_rfl) (by kernel_rfl) rfl rfl rfl rfl rfl (by decide) (Pm9 rfl rfl) (AH_takeT 13 rfl (by kernel_rfl) (by kernel_rfl) (by kernel_rfl) rfl rfl rfl rfl rfl (by decide) (Pu_idxS1 (r:=720) rfl Tryz.runUnderlying63 Tryz.sizeOf9 rfl rfl rfl rowS_rd (by omega)) (AH_takeT 14 rfl (by kernel_rfl) (by kernel_rfl) (by kernel_rfl) rfl rfl rfl rfl rfl (by decide) (Py9 (r:=720) rfl Tryz.isAgg9 rfl rfl rowS_rd (ss_at (k:=z) hlt5)) (AH_takeT 15 rfl (by kernel_rfl) (by kernel_rfl) (by kernel_rfl) rfl rfl rfl rfl rfl (by decide) (Pm9 rfl rfl) (AH_takeT 17 rfl (by kernel_rfl) (by kernel_rfl) (by kernel_rfl) rfl rfl rfl rfl rfl (by decide) (Pm9 rfl rfl) (Y9 [16] ?_))))))))))
        refine AHs_gT rfl rfl rfl rfl rfl rfl (by decide) (Oc9 1100 [0,401,700,701,710,720] [] rfl Tryz.call15 rfl rfl rfl (by decide) (by decide) (within_spec off 1100 (by omega) (by omega) _) (fun v204 Ps204 hR204 => ?_)) ?_
        ·
         obtain ⟨rfl,rfl⟩:=hR204
         refine ⟨⟨rfl,rfl,rfl,trivial⟩,?_⟩
         refine (Y9 [18] ?_)
         refine AHs_gT rfl rfl rfl rfl rfl rfl (by decide) (Oc9 1200 [0,401,700,701,710,720] [] rfl Tryz.call15 rfl rfl rfl (by decide) (by decide) (within_spec n 300 (by omega) (by omega) _) (fun v206 Ps206 hR206 => ?_)) ?_
         ·
          obtain ⟨rfl,rfl⟩:=hR206
          refine ⟨⟨rfl,rfl,rfl,trivial⟩,?_⟩
          refine (Y9 [19] ?_)
          refine AHs_gT rfl rfl rfl rfl rfl rfl (by decide) (Oc9 1300 [0,401,700,701,710,720] [] rfl Tryz.call29 rfl rfl rfl (by decide) (by decide) (asks_spec es w1 hw1o id hid hy2 hy3 _ (rs9 2 rfl (fun _ h => rp9 h)) (ds9 3 rfl (fun _ h => h)) (ts9 0 rfl hT) (rws.getD z []) hzl (off % 1100) (n % 300)) (fun v207 Ps207 hR207 => ?_)) ?_
          ·
           obtain ⟨rfl,rfl⟩:=hR207
           refine ⟨⟨rfl,rfl,rfl,trivial⟩,?_⟩
           refine (AH_takeT 20 rfl (by kernel_rfl) (by kernel_rfl) (by kernel_rfl) rfl rfl rfl rfl rfl (by decide) (Pu_un rfl rfl (run_not _)) (T9 21 rfl rfl (Pu_pickF rfl rfl rfl rfl) (Ad9 (by kernel_rfl) (X9 ?_))))
           refine W_false rfl (rfl) ?_
           refine K9 (X_block (X9 ?_))
           refine R9 (M9 rfl rfl (L9 rfl (Pn9 rfl rfl rfl (run_add _ _ _ _ _ (by omega))) (G9 rfl rfl (N9 ?_))))
           exact Xr9 (z + 1) (by omega) (by omega) (a9 rfl) (a9 rfl)
          exact An9
         exact An9
        exact An9
       exact An9
      ·
       refine W_exit (X_then_exit (X_then_exit (X_block_exit (X9 ?_))))
       refine Q9 (R9 (G9 rfl rfl (N9 (X9 ?_))))
       refine W_ret ?_
       exact Xq9 [] (Ps:=[]) (res1 Tryz.results8 rfl) rfl (by decide) ⟨rfl,rfl⟩
     ·
      refine K9 (X9 ?_)
      refine Q9 (Q9 (R9 (G9 rfl rfl (N9 (X9 ?_)))))
      refine W_block ?_
      obtain ⟨rws,hrw⟩ : ∃ rws : List (List UInt8),rws = a.2.2:=⟨_,rfl⟩
      obtain ⟨vr,hvr⟩ : ∃ vr : Value,vr = a.2.1:=⟨_,rfl⟩
      have hrl : rws.length ≤ 100 ∧ ∀ z ∈ rws,z.length ≤ 1000000000:=by rw [hrw]; exact ⟨by omega,ha3⟩
      rw [← hvr,← hrw]
      refine W_loop (α:=Nat) (fun z => [(5,.int .i64 off),(6,.int .i64 n),(16,.pointer (some ⟨g401,0,none⟩)),(23,vr),(27,.int .i64 (z : Int))]) (fun z => [(0,F),(710,rowR itC 2 38 v44 xs),(700,rowP 59 35 w1 (es).length (recC bvC ((es).map (fun p : EB => p.1)))),(701,datE es),(401,blk g401 31 (treeC w1 id)),(720,rowS 9 vr rws)]) (fun z => z ≤ rws.length) (fun z => rws.length - z) (0) (Nat.zero_le _) (a9 rfl) (a9 rfl) (fun z hz => ?_)
      refine Q9 (Q9 (R9 (M9 rfl rfl (M9 rfl rfl (L9 rfl (Pl9 (r:=720) rfl Tryz.runUnderlying63 rfl rfl rowS_rd) (L9 rfl (Pn9 rfl rfl rfl (run_lss _ _ _ _ _ _)) (N9 (X9 ?_))))))))
      refine C9 rfl (fun hc185 => ?_) (fun hc185 => ?_)
      ·
       have hlt5 : z < rws.length:=by have:=of_decide_eq_true hc185; omega
       have hzl : (rws.getD z []).length ≤ 1000000000:=hrl.2 _ (getD_mem' hlt5)
       refine K9 (X9 ?_)
       refine Q9 ?_
       refine W_block ?_
       refine Q9 ?_
       refine W_draw (N:=22) (by kernel_rfl) rfl [(0,_),(401,_),(720,_)] ⟨rfl,rfl,rfl,trivial⟩ ?_
       refine (T9 0 rfl rfl (Px9 (r:=401) rfl Tryz.isAgg31 Tryz.sizeOf31 rfl rfl (treeC_length hid) (load_all (treeC_length hid))) (T9 1 rfl rfl (Pm9 rfl rfl) (T9 2 rfl rfl (Pm9 rfl rfl) (T9 3 rfl rfl (Pu_idxS1 (r:=720) rfl Tryz.runUnderlying63 Tryz.sizeOf9 rfl rfl rfl rowS_rd (by omega)) (T9 4 rfl rfl (Py9 (r:=720) rfl Tryz.isAgg9 rfl rfl rowS_rd (ss_at (k:=z) hlt5)) (T9 5 rfl rfl (Pm9 rfl rfl) (T9 6 rfl rfl (Pm9 rfl rfl) (Y9 [7] ?_))))))))
       refine Z9 rfl rfl (Oc9 800 [0,401,700,701,710,720] [] rfl Tryz.call29 rfl rfl rfl (by decide) (by decide) (asks_spec es w1 hw1o id hid hy2 hy3 _ (rs9 2 rfl (fun _ h => rp9 h)) (ds9 3 rfl (fun _ h => h)) (ts9 0 rfl hT) (rws.getD z []) hzl off n) (fun v195 Ps195 hR195 => ?_)) ?_
       ·
        obtain ⟨rfl,rfl⟩:=hR195
        refine ⟨⟨rfl,rfl,rfl,trivial⟩,?_⟩
        refine (T9 8 rfl rfl (Pu_un rfl rfl (run_not _)) (T9 9 rfl rfl (Pm9 rfl rfl) (AH_takeT 10 rfl (by kernel_rfl) (by kernel_rfl) (by kernel_rfl) rfl rfl rfl rfl rfl (by decide) (Px9 (r:=401) rfl Tryz.isAgg31 Tryz.sizeOf31 rfl rfl (treeC_length hid) (load_all (treeC_length hid))) (AH_takeT 11 rfl (by kernel_rfl) (by kernel_rfl) (by kernel_rfl) rfl rfl rfl rfl rfl (by decide) (Pm9 rfl rfl) (AH_takeT 12 rfl (by kernel_rfl) (by kernel_rfl) (by kernel_rfl) rfl rfl rfl rfl rfl (by decide) (Pm9 rfl rfl) (AH_takeT 13 rfl (by kernel_rfl) (by kernel_rfl) (by kernel_rfl) rfl rfl rfl rfl rfl (by decide) (Pu_idxS1 (r:=720) rfl Tryz.runUnderlying63 Tryz.sizeOf9 rfl rfl rfl rowS_rd (by omega)) (AH_takeT 14 rfl (by kernel_rfl) (by kernel_rfl) (by kernel_rfl) rfl rfl rfl rfl rfl (by decide) (Py9 (r:=720) rfl Tryz.isAgg9 rfl rfl rowS_rd (ss_at (k:=z) hlt5)) (AH_takeT 15 rfl (by kernel_rfl) (by kernel_rfl) (by kernel_rfl) rfl rfl rfl rfl rfl (by decide) (Pm9 rfl rfl) (AH_takeT 17 rfl (by kernel_rfl) (by kernel_rfl) (by kernel_rfl) rfl rfl rfl rfl rfl (by decide) (Pm9 rfl rfl) (Y9 [16] ?_))))))))))
        refine AHs_gT rfl rfl rfl rfl rfl rfl (by decide) (Oc9 900 [0,401,700,701,710,720] [] rfl Tryz.call15 rfl rfl rfl (by decide) (by decide) (within_spec off 1100 (by omega) (by omega) _) (fun v204 Ps204 hR204 => ?_)) ?_
        ·
         obtain ⟨rfl,rfl⟩:=hR204
         refine ⟨⟨rfl,rfl,rfl,trivial⟩,?_⟩
         refine (Y9 [18] ?_)
         refine AHs_gT rfl rfl rfl rfl rfl rfl (by decide) (Oc9 1000 [0,401,700,701,710,720] [] rfl Tryz.call15 rfl rfl rfl (by decide) (by decide) (within_spec n 300 (by omega) (by omega) _) (fun v206 Ps206 hR206 => ?_)) ?_
         ·
          obtain ⟨rfl,rfl⟩:=hR206
          refine ⟨⟨rfl,rfl,rfl,trivial⟩,?_⟩
          refine (Y9 [19] ?_)
          refine AHs_gT rfl rfl rfl rfl rfl rfl (by decide) (Oc9 1100 [0,401,700,701,710,720] [] rfl Tryz.call29 rfl rfl rfl (by decide) (by decide) (asks_spec es w1 hw1o id hid hy2 hy3 _ (rs9 2 rfl (fun _ h => rp9 h)) (ds9 3 rfl (fun _ h => h)) (ts9 0 rfl hT) (rws.getD z []) hzl (off % 1100) (n % 300)) (fun v207 Ps207 hR207 => ?_)) ?_
          ·
           obtain ⟨rfl,rfl⟩:=hR207
           refine ⟨⟨rfl,rfl,rfl,trivial⟩,?_⟩
           refine (AH_takeT 20 rfl (by kernel_rfl) (by kernel_rfl) (by kernel_rfl) rfl rfl rfl rfl rfl (by decide) (Pu_un rfl rfl (run_not _)) (T9 21 rfl rfl (Pu_pickF rfl rfl rfl rfl) (Ad9 (by kernel_rfl) (X9 ?_))))
           refine W_false rfl (rfl) ?_
           refine K9 (X_block (X9 ?_))
           refine R9 (M9 rfl rfl (L9 rfl (Pn9 rfl rfl rfl (run_add _ _ _ _ _ (by omega))) (G9 rfl rfl (N9 ?_))))
           exact Xr9 (z + 1) (by omega) (by omega) (a9 rfl) (a9 rfl)
          exact An9
         exact An9
        exact An9
       exact An9
      ·
       refine W_exit (X_then_exit (X_then_exit (X_block_exit (X9 ?_))))
       refine Q9 (R9 (G9 rfl rfl (N9 (X9 ?_))))
       refine W_ret ?_
       exact Xq9 [] (Ps:=[]) (res1 Tryz.results8 rfl) rfl (by decide) ⟨rfl,rfl⟩
end Go.Proofs.YthkdkmaacjpneaaGreatDoor
namespace Go.Proofs.YthkdkmaacjpneaaGreatDoor
open Go.RowKit Go.ChangeShapes Go.WideShapes Go.Deep

theorem wf_i64 {n : Int} (h : (Lit.int .i64 n).wf = true) : -9223372036854775808 ≤ n ∧ n ≤ 9223372036854775807:=by
  simp only [Lit.wf,Bool.and_eq_true,decide_eq_true_eq] at h
  have h1 : IntKind.min .i64 = -9223372036854775808:=by decide
  have h2 : IntKind.max .i64 = 9223372036854775807:=by decide
  rw [h1,h2] at h
  exact h
theorem wf_u8 {n : Int} (h : (Lit.int .u8 n).wf = true) : 0 ≤ n ∧ n ≤ 255:=by
  simp only [Lit.wf,Bool.and_eq_true,decide_eq_true_eq] at h
  have h1 : IntKind.min .u8 = 0:=by decide
  have h2 : IntKind.max .u8 = 255:=by decide
  rw [h1,h2] at h
  exact h

def RdI (w : World) (v : Value) (zs : List Int) : Prop:=Rd w 1 v zs.length (zs.map (Value.int .i64))
def I64 (zs : List Int) : Prop:=∀ z ∈ zs,-9223372036854775808 ≤ z ∧ z ≤ 9223372036854775807
def RdT (w : World) (v : Value) (l : List Bool) : Prop:=Rd w 1 v l.length (l.map Value.bool)
def RdR (w : World) (v : Value) (ps : List (Value × List UInt8)) : Prop:=Rd w 1 v ps.length (ps.map (·.1)) ∧ ∀ p ∈ ps,RdB w p.1 p.2

theorem ints_of (vs : List Value) (h : ∀ u ∈ vs,∃ n,u = .int .i64 n ∧ (Lit.int .i64 n).wf = true) : ∃ zs : List Int,vs = zs.map (Value.int .i64) ∧ I64 zs:=by
  induction vs with
  | nil => exact ⟨[],rfl,by simp [I64]⟩
  | cons u vs ih =>
    obtain ⟨zs,rfl,hz⟩:=ih fun x hx => h x (List.mem_cons_of_mem _ hx)
    obtain ⟨n,rfl,hw⟩:=h u (List.mem_cons_self ..)
    refine ⟨n :: zs,rfl,fun z hm => ?_⟩
    rcases List.mem_cons.1 hm with rfl | hm
    · exact wf_i64 hw
    · exact hz z hm
theorem pairs_of {α β : Type} {R : α → β → Prop} (vs : List α) (h : ∀ u ∈ vs,∃ y,R u y) : ∃ ps : List (α × β),vs = ps.map (·.1) ∧ ∀ p ∈ ps,R p.1 p.2:=by
  induction vs with
  | nil => exact ⟨[],rfl,by simp⟩
  | cons u vs ih =>
    obtain ⟨ps,rfl,hp⟩:=ih fun x hx => h x (List.mem_cons_of_mem _ hx)
    obtain ⟨y,hy⟩:=h u (List.mem_cons_self ..)
    refine ⟨(u,y) :: ps,rfl,fun p hm => ?_⟩
    rcases List.mem_cons.1 hm with rfl | hm
    · exact hy
    · exact hp p hm

section
variable {H : Type} {enc : TypeId × Value → H} {P : Program} {w : World} {base : Nat} {spare : Nat → Bool} {held : Bool}

theorem slice1_of {t e : TypeId} {fuel : Nat} {v : Value} {x : DataW H × List MemPlace} (ht : P.underlying t = some (.slice e)) (hc : P.cellsOf e = 1) (h : DataW.trod enc P w base spare held fuel t [v] = some x) :
    ∃ vs : List Value,Rd w 1 v vs.length vs ∧ vs.length ≤ maxLen ∧ ∀ u ∈ vs,∃ n y,DataW.trod enc P w base spare held n e [u] = some y:=by
  rcases open_slice1 ht hc h with ⟨h1,_⟩ | ⟨a,len,cap,m,n,V,D,Pl,h1,hb,hl,hm,hmm,hx,hV⟩
  · injection h1 with h1; subst h1
    exact ⟨[],⟨rfl,none,0,rfl,Nat.le_refl _,fun _ => rfl,fun ad h => by cases h⟩,by unfold maxLen; simp,by simp⟩
  · injection h1 with h1; subst h1
    have hle : len ≤ m:=by rw [hmm]; split <;> omega
    refine ⟨(List.range len).map V,⟨by simp,some a,cap,by simp,by simpa using hl,(fun h => by cases h),fun ad had => ?_⟩,by simp; omega,fun u hu => ?_⟩
    · injection had with had; subst had
      refine ⟨fun hp => ?_,fun j u hu => ?_⟩
      · have:=(hV 0 (by simp at hp; omega)).1
        have:=World.block_lt_of_cell? _ _ this
        rwa [block_of_add] at this
      · simp only [List.getElem?_map] at hu
        have hj : j < len:=by
          rcases Nat.lt_or_ge j len with h | h
          · exact h
          · simp [List.getElem?_eq_none (show (List.range len).length ≤ j by simpa using h)] at hu
        simp [List.getElem?_range hj] at hu
        subst hu
        exact (hV j (by omega)).1
    · simp only [List.mem_map,List.mem_range] at hu
      obtain ⟨i,hi,rfl⟩:=hu
      exact ⟨n,_,(hV i (by omega)).2⟩

theorem rdI_of {t e : TypeId} {fuel : Nat} {v : Value} {x : DataW H × List MemPlace} (ht : P.underlying t = some (.slice e)) (he : P.underlying e = some (.int .i64)) (hc : P.cellsOf e = 1) (h : DataW.trod enc P w base spare held fuel t [v] = some x) :
    ∃ l,RdI w v l ∧ I64 l ∧ l.length ≤ maxLen:=by
  obtain ⟨vs,hr,hm,hu⟩:=slice1_of ht hc h
  obtain ⟨l,rfl,hl⟩:=ints_of vs fun u hmem => by
    obtain ⟨n,y,hy⟩:=hu u hmem
    obtain ⟨k,h1,_,h3⟩:=DataW.trod_int he hy
    injection h1 with h1
    exact ⟨k,h1,h3⟩
  rw [List.length_map] at hr hm
  exact ⟨l,hr,hl,hm⟩
theorem rows_of {t e : TypeId} {fs : Array Field} {fuel : Nat} {v : Value} {x : DataW H × List MemPlace} (ht : P.underlying t = some (.slice e)) (he : P.underlying e = some (.struct fs))
    (hone : oneCellFields P fs = true) (hS : 0 < fs.size) (hC : P.cellsOf e = fs.size) (h : DataW.trod enc P w base spare held fuel t [v] = some x) :
    ∃ rs : List (List Value),Rd w fs.size v rs.length rs.flatten ∧ rs.length ≤ maxLen ∧ ∀ r ∈ rs,r.length = fs.size ∧
      ∀ (j : Nat) (f : Field),fs[j]? = some f → ∃ u n y,r[j]? = some u ∧ DataW.trod enc P w base spare held n f.type [u] = some y:=by
  rcases open_slice ht h with ⟨h1,_⟩ | ⟨a,len,cap,m,n,D,Pl,h1,hb,hl,hm,hmm,hx,hi⟩
  · injection h1 with h1; subst h1
    exact ⟨[],⟨by simp,none,0,rfl,Nat.le_refl _,fun _ => rfl,fun ad h => by cases h⟩,by unfold maxLen; simp,by simp⟩
  · injection h1 with h1; subst h1
    have hle : len ≤ m:=by rw [hmm]; split <;> omega
    rw [hC] at hi
    obtain ⟨V,hV⟩:=choose_lt (α:=List Value) (p:=fun i cs' => w.cells? base (a.add (i * fs.size)) fs.size = some cs' ∧ DataW.trod enc P w base spare held n e cs' = some (D i,Pl i)) (n:=m) (fun i him => hi i him)
    have hfl : ∀ i,i < len → (V i).length = fs.size:=fun i h => (World.cells?_some (hV i (by omega)).1).2.1
    have hlen : ∀ k,k ≤ len → ((List.range k).map V).flatten.length = k * fs.size:=by
      intro k hk
      induction k with
      | zero => simp
      | succ k ih =>
        rw [List.range_succ,List.map_append,List.flatten_append,List.length_append,ih (by omega)]
        simp [hfl k (by omega),Nat.add_mul]
    have hget : ∀ k,k ≤ len → ∀ (j : Nat) (u : Value),((List.range k).map V).flatten[j]? = some u → w.cell? (a.add j) = some u:=by
      intro k hk
      induction k with
      | zero => intro j u hu; simp at hu
      | succ k ih =>
        intro j u hu
        rw [List.range_succ,List.map_append,List.flatten_append,List.getElem?_append,hlen k (by omega)] at hu
        split at hu
        · exact ih (by omega) j u hu
        · simp only [List.map_cons,List.map_nil,List.flatten_cons,List.flatten_nil,List.append_nil] at hu
          have hj : j - k * fs.size < fs.size:=by
            have:=(List.getElem?_eq_some_iff.1 hu).1
            rw [hfl k (by omega)] at this
            exact this
          have h2:=(World.cells?_some (hV k (by omega)).1).2.2 (j - k * fs.size) hj
          rw [add_of_add,show k * fs.size + (j - k * fs.size) = j by omega] at h2
          rw [h2,hu]
    refine ⟨(List.range len).map V,⟨by rw [hlen len (Nat.le_refl _)]; simp,some a,cap,by simp,by simpa using hl,(fun h => by cases h),fun ad had => ?_⟩,by simp; omega,fun r hr => ?_⟩
    · injection had with had; subst had
      refine ⟨fun hp => ?_,hget len (Nat.le_refl _)⟩
      have hp' : 0 < len:=by simpa using hp
      have h0:=(hV 0 (by omega)).1
      have h1:=(World.cells?_some h0).2.2 0 hS
      rw [List.getElem?_eq_getElem (by rw [hfl 0 hp']; exact hS)] at h1
      have:=World.block_lt_of_cell? _ _ h1
      rwa [block_of_add,block_of_add] at this
    · simp only [List.mem_map,List.mem_range] at hr
      obtain ⟨i,hil,rfl⟩:=hr
      obtain ⟨hc,htd⟩:=hV i (by omega)
      obtain ⟨ys,n',hn',hy,hlen',hyl,hf⟩:=DataW.trod_struct he htd
      refine ⟨hfl i hil,fun j f hj => ?_⟩
      obtain ⟨ho,hk⟩:=hone_of hone j f hj
      have hjl : j < fs.size:=(Array.getElem?_eq_some_iff.1 hj).1
      have h1:=hf j f hj
      rw [ho,hk] at h1
      have hvl:=hfl i hil
      have hone' : ((V i).drop j).take 1 = [(V i)[j]'(by omega)]:=by
        rw [List.drop_eq_getElem_cons (by omega)]
        rfl
      rw [hone',List.getElem?_eq_getElem (by omega)] at h1
      exact ⟨_,n',_,List.getElem?_eq_getElem (by omega),h1⟩
end

section
variable {H : Type} {enc : TypeId × Value → H} {P : Program} {w : World} {base b0 : Nat} {spare : Nat → Bool} {held : Bool} {r : Reach} {t : TypeId} {v : Value} {d : DataW H} {ps : List MemPlace}
theorem op_int (ht : P.underlying t = some (.int .i64)) (hv : Value.okWide P w r b0 t v) (h : DataW.Trod enc P w base spare held t v d ps) : ∃ n,v = .int .i64 n ∧ -9223372036854775808 ≤ n ∧ n ≤ 9223372036854775807:=by
  obtain ⟨n,rfl,_,_,hw⟩:=open_int ht hv h
  exact ⟨n,rfl,(wf_i64 hw).1,(wf_i64 hw).2⟩
theorem op_slice {e : TypeId} (ht : P.underlying t = some (.slice e)) (hv : Value.okWide P w r b0 t v) (h : DataW.Trod enc P w base spare held t v d ps) : ∃ fuel,DataW.trod enc P w base spare held fuel t [v] = some (d,ps):=by
  obtain ⟨a,len,cap,rfl⟩:=okWide_slice ht hv
  obtain ⟨fuel,hf⟩:=h
  exact ⟨fuel,by simpa [Value.cells] using hf⟩
end
end Go.Proofs.YthkdkmaacjpneaaGreatDoor
namespace Go.Proofs.YthkdkmaacjpneaaGreatDoor
open Go.RowKit Go.ChangeShapes Go.WideShapes Go.Deep
section
variable {H : Type} {enc : TypeId × Value → H} {P : Program} {w : World} {base : Nat} {spare : Nat → Bool} {held : Bool}
def Tr (enc : TypeId × Value → H) (P : Program) (w : World) (base : Nat) (spare : Nat → Bool) (held : Bool) (t : TypeId) (cs : List Value) : Prop:=∃ fuel x,DataW.trod enc P w base spare held fuel t cs = some x
theorem Tr.int {t : TypeId} {cs : List Value} (ht : P.underlying t = some (.int .i64)) (h : Tr enc P w base spare held t cs) : ∃ n,cs = [.int .i64 n] ∧ -9223372036854775808 ≤ n ∧ n ≤ 9223372036854775807:=by
  obtain ⟨f,x,h⟩:=h
  obtain ⟨n,rfl,_,hw⟩:=DataW.trod_int ht h
  exact ⟨n,rfl,wf_i64 hw⟩
theorem Tr.bool {t : TypeId} {cs : List Value} (ht : P.underlying t = some .bool) (h : Tr enc P w base spare held t cs) : ∃ b,cs = [Value.bool b]:=by
  obtain ⟨f,x,h⟩:=h
  obtain ⟨b,rfl,_⟩:=DataW.trod_bool ht h
  exact ⟨b,rfl⟩
theorem Tr.u8 {t : TypeId} {cs : List Value} (ht : P.underlying t = some (.int .u8)) (h : Tr enc P w base spare held t cs) : ∃ x,cs = [bv x]:=by
  obtain ⟨f,x,h⟩:=h
  obtain ⟨n,rfl,_,hw⟩:=DataW.trod_int ht h
  have:=wf_u8 hw
  refine ⟨UInt8.ofNat n.toNat,?_⟩
  simp only [bv]
  congr 2
  rw [UInt8.toNat_ofNat']
  omega
theorem Tr.struct {t : TypeId} {cs : List Value} {fs : Array Field} (ht : P.underlying t = some (.struct fs)) (h : Tr enc P w base spare held t cs) : cs.length = P.cellsOf t ∧ ∀ (i : Nat) (f : Field),fs[i]? = some f → Tr enc P w base spare held f.type ((cs.drop f.offset).take (P.cellsOf f.type)):=by
  obtain ⟨f,x,h⟩:=h
  obtain ⟨xs,n,_,_,hl,hx,hf⟩:=DataW.trod_struct ht h
  refine ⟨hl,fun i f hi => ?_⟩
  have h1:=hf i f hi
  have hlt : i < xs.length:=by rw [hx]; exact (Array.getElem?_eq_some_iff.1 hi).1
  rw [List.getElem?_eq_getElem hlt] at h1
  exact ⟨n,_,h1⟩
theorem Tr.array {t e : TypeId} {n : Nat} {cs : List Value} (ht : P.underlying t = some (.array n e)) (h : Tr enc P w base spare held t cs) : cs.length = P.cellsOf t ∧ ∀ i,i < n → Tr enc P w base spare held e ((cs.drop (i * P.cellsOf e)).take (P.cellsOf e)):=by
  obtain ⟨f,x,h⟩:=h
  obtain ⟨xs,m,_,_,hl,hx,hf⟩:=DataW.trod_array ht h
  refine ⟨hl,fun i hi => ?_⟩
  have h1:=hf i hi
  rw [List.getElem?_eq_getElem (by omega)] at h1
  exact ⟨m,_,h1⟩
theorem Tr.bytes {t e : TypeId} {n : Nat} {cs : List Value} (ht : P.underlying t = some (.array n e)) (he : P.underlying e = some (.int .u8)) (hc : P.cellsOf e = 1) (hn : P.cellsOf t = n) (h : Tr enc P w base spare held t cs) : ∃ l,cs = bs l ∧ l.length = n:=by
  obtain ⟨hl,hf⟩:=h.array ht
  rw [hn] at hl
  rw [hc] at hf
  have key : ∀ (cs : List Value),(∀ i,i < cs.length → Tr enc P w base spare held e ((cs.drop (i * 1)).take 1)) → ∃ l,cs = bs l:=by
    intro cs
    induction cs with
    | nil => intro _; exact ⟨[],rfl⟩
    | cons u cs ih =>
      intro h
      obtain ⟨l,rfl⟩:=ih (fun i hi => by
        have:=h (i + 1) (by simpa using hi)
        simpa using this)
      obtain ⟨x,hx⟩:=(h 0 (by simp)).u8 he
      simp at hx
      exact ⟨x :: l,by simp [bs,hx]⟩
  obtain ⟨l,rfl⟩:=key cs (fun i hi => hf i (by omega))
  exact ⟨l,rfl,by rw [← hl,bs_length]⟩
end
section
variable {H : Type} {enc : TypeId × Value → H} {P : Program} {w : World} {base b0 : Nat} {spare : Nat → Bool} {held : Bool} {r : Reach} {t : TypeId} {v : Value} {d : DataW H} {ps : List MemPlace}
end
end Go.Proofs.YthkdkmaacjpneaaGreatDoor
namespace Go.Proofs.YthkdkmaacjpneaaGreatDoor
open Go.RowKit Go.ChangeShapes Go.WideShapes Go.Deep
section
variable {H : Type} {enc : TypeId × Value → H} {P : Program} {w : World} {base : Nat} {spare : Nat → Bool} {held : Bool}
end
end Go.Proofs.YthkdkmaacjpneaaGreatDoor
namespace Go.Proofs.YthkdkmaacjpneaaGreatDoor
open Go.RowKit Go.ChangeShapes Go.WideShapes Go.Deep
section
variable {H : Type} {enc : TypeId × Value → H} {P : Program} {w : World} {base b0 : Nat} {spare : Nat → Bool} {held : Bool} {r : Reach} {t : TypeId} {v : Value} {d : DataW H} {ps : List MemPlace}
theorem op_str (ht : P.underlying t = some .string) (hv : Value.okWide P w r b0 t v) (h : DataW.Trod enc P w base spare held t v d ps) : ∃ l : List UInt8,v = sV l ∧ l.length ≤ maxLen:=by
  obtain ⟨s,rfl,_,_,hs⟩:=Go.ChangeMaps.open_string ht hv h
  refine ⟨s.data.toList,by rw [sV,← strB_data],?_⟩
  rw [← strB_size,← strB_data]
  exact hs
end
end Go.Proofs.YthkdkmaacjpneaaGreatDoor
namespace Go.Proofs.YthkdkmaacjpneaaGreatDoor
open Go.RowKit Go.ChangeShapes Go.WideShapes Go.Deep
section
variable {H : Type} {enc : TypeId × Value → H} {w : World} {base : Nat} {spare : Nat → Bool} {held : Bool} {v : Value}
theorem rdFiles_of {fuel : Nat} {x : DataW H × List MemPlace} (h : DataW.trod enc Tryz.prog w base spare held fuel 22 [v] = some x) :
    ∃ fs : List FV,(Rd w 3 v fs.length (recC fileC fs) ∧ ∀ f ∈ fs,Rd w 1 f.2.1 f.1.length (is f.1)) ∧ fs.length ≤ maxLen:=by
  obtain ⟨rs,hr,hm,hrs⟩:=rows_of Tryz.underlying22 Tryz.underlying97 (by kernel_rfl) (by decide) (by kernel_rfl) h
  obtain ⟨cs,hcs,hp⟩:=pairs_of (R:=fun (r : List Value) (c : FV) => r = fileC c ∧ Rd w 1 c.2.1 c.1.length (is c.1)) rs fun r hrm => by
    obtain ⟨hl,hf⟩:=hrs r hrm
    obtain ⟨u0,n0,y0,e0,t0⟩:=hf 0 _ rfl
    obtain ⟨u1,n1,y1,e1,t1⟩:=hf 1 _ rfl
    obtain ⟨u2,n2,y2,e2,t2⟩:=hf 2 _ rfl
    obtain ⟨l,hl2,_⟩:=rdI_of Tryz.underlying61 Tryz.underlying3 (by kernel_rfl) t0
    obtain ⟨a,ha,_,wa⟩:=DataW.trod_int Tryz.underlying3 t1
    obtain ⟨b,hb⟩:=Tr.u8 Tryz.underlying5 (cs:=[u2]) ⟨n2,y2,t2⟩
    injection ha with ha; injection hb with hb
    subst ha; subst hb
    refine ⟨⟨l,u0,a,b⟩,?_,hl2⟩
    match r,hl with
    | [r0,r1,r2],_ =>
      simp at e0 e1 e2
      subst e0; subst e1; subst e2
      rfl
  subst hcs
  rw [List.length_map] at hr hm
  refine ⟨cs.map (·.2),⟨?_,fun c hc => ?_⟩,by simpa using hm⟩
  · have he : recC fileC (cs.map (·.2)) = (cs.map (·.1)).flatten:=by
      unfold recC
      rw [List.map_map]
      congr 1
      refine List.map_congr_left fun p hpm => ?_
      exact (hp p hpm).1.symm
    rw [he,List.length_map]
    exact hr
  · simp only [List.mem_map] at hc
    obtain ⟨p,hpm,rfl⟩:=hc
    exact (hp p hpm).2
end
open Go.RowKit
theorem treeAsks_any (W : World) (hT : ∀ h,orig W h → tabsP h) (v0 : Value) (l0 : List FV) (hr0 : Rd W 3 v0 l0.length (recC fileC l0) ∧ ∀ f ∈ l0,Rd W 1 f.2.1 f.1.length (is f.1)) (hl0 : l0.length ≤ maxLen)
    (v1 : Value) (l1 : List Int) (hr1 : RdI W v1 l1) (hz1 : I64 l1) (hl1 : l1.length ≤ maxLen) (v2 : Value) (l2 : List Int) (hr2 : RdI W v2 l2) (hz2 : I64 l2) (hl2 : l2.length ≤ maxLen) (p : List UInt8) (hp : p.length ≤ maxLen)
    (v4 : Value) (l4 : List Int) (hr4 : RdI W v4 l4) (hz4 : I64 l4) (hl4 : l4.length ≤ maxLen) (a5 : Int) (lo5 : -9223372036854775808 ≤ a5) (hi5 : a5 ≤ 9223372036854775807) (a6 : Int) (lo6 : -9223372036854775808 ≤ a6) (hi6 : a6 ≤ 9223372036854775807) :
    Calls Tryz.prog 8 #[v0,v1,v2,sV p,v4,.int .i64 a5,.int .i64 a6] W fun e W' => e = .returned (.bool true) ∧ Chg [] W W' :=
  calls_law ((treeAsks_spec v0 l0 v1 l1 v2 l2 p v4 l4 a5 a6 (orig W) (fun h hp => Rd.orig hr0.1 h hp) (fun h hp f hf => Rd.orig (hr0.2 f hf) h hp) (fun h hp => Rd.orig hr1 h hp) (fun h hp => Rd.orig hr2 h hp) (fun h hp => Rd.orig hr4 h hp) hT).imp fun v Ps h => h.1)
end Go.Proofs.YthkdkmaacjpneaaGreatDoor
namespace Go.Proofs.YthkdkmaacjpneaaGreatDoor
open Go.RowKit Go.Lib
set_option maxRecDepth 100000
theorem first_eq : Go.Pinned.utf8First = firstData:=by kernel_rfl
theorem accept_eq : (Rows.laid_unicode_utf8_acceptRanges : DataW Unit) = acceptData:=by kernel_rfl
def laidL : List (String × DataW Unit):=[("unicode/utf8.acceptRanges",Rows.laid_unicode_utf8_acceptRanges),("unicode/utf8.first",Rows.laid_unicode_utf8_first)]
theorem tabs_of_laid {W : World} (h : laidMetH Tryz.prog laidL W) (hsh : W.ShapedOpen Tryz.prog) : ∀ h,orig W h → tabsP h:=by
  rw [MakeChecks.laidMetH_plain _ _ _ (by kernel_rfl)] at h
  have h3 : VarReads Tryz.prog W "unicode/utf8.first" firstData:=by
    rw [← first_eq]
    exact laidMet.reads h (List.mem_cons_of_mem _ List.mem_cons_self)
  have h4 : VarReads Tryz.prog W "unicode/utf8.acceptRanges" acceptData:=by
    rw [← accept_eq]
    exact laidMet.reads h List.mem_cons_self
  refine orig_tabs (utf8Tabs_of_reads lays260 laysU h3 h4) ?_
  exact cell_of_shapedOpen_int (zero:=#[.int .i64 0]) (t:=3) hsh (of_decide_eq_true (by kernel_rfl)) (by kernel_rfl) rfl (by kernel_rfl) (by kernel_rfl) Tryz.underlying3
def lay (cs : List Value) : Obj → Obj
  | .cells _ t frozen => .cells cs.toArray t frozen
  | o => o
def firstCells : List Value:=(List.range 256).map fun c => Value.int .u8 (firstT c : Int)
def acceptCells : List Value:=((List.range 16).map fun i => [Value.int .u8 (accLo i : Int),Value.int .u8 (accHi i : Int)]).flatten
noncomputable def laidWorld (os : Os) : World :=
  { World.holding Tryz.prog os ⟨#[],#[],[]⟩ with heap:=((World.holding Tryz.prog os ⟨#[],#[],[]⟩).heap.modify 1 (lay firstCells)).modify 2 (lay acceptCells) }
theorem laid_met (os : Os) (args : Array Value) : laidMet Tryz.prog laidL ((laidWorld os).forCall (fun _ _ => 0) ⟨#[],args,[]⟩).memory :=
  laidMet_of_run' 8 (by kernel_rfl) (by kernel_rfl)
end Go.Proofs.YthkdkmaacjpneaaGreatDoor
