/- Texts of this proof, one behind the other: TreeF, LaySrtE, LaySrtB, SortK, KeyL, Bk, SrtC, SrtD, TreeG, TreeH, TreeI, TiB, TreeJ, TreeK, BlobD, TreeL, TreeM, TreeN. -/
import Derived.Test.YthkdkmaacjpneaaGreatDoorK4
import Derived.Test.YthkdkmaacjpneaaGreatDoorProg
import Derived.Shelf.SlSortCmp.WholeK
import Derived.Test.YthkdkmaacjpneaaGreatDoorK2
import Derived.Shelf.SlSortCmp.NoneTotal
import Derived.Test.YthkdkmaacjpneaaGreatDoorK1
import Derived.Lib.BytesEntry
import GoSem.Extern.BytealgCompare
import Derived.Test.YthkdkmaacjpneaaGreatDoorK3
import Derived.Lib.Bytealg
import Derived.IntWalk
import Derived.Laws.StandIn
import Derived.Deep.QuietTactic
import Derived.BigQuiet
set_option linter.unusedVariables false
set_option linter.unusedSimpArgs false
set_option linter.unusedSectionVars false
namespace Go.Proofs.YthkdkmaacjpneaaGreatDoor
open Go.RowKit
theorem canPut_nil (q : List (List UInt8)) (hq : q ≠ []) (g gd gf : Nat) : canPut q (.mk g gd gf [] []) = true:=by
  match q,hq with
  | [n],_ => rfl
  | n :: m :: q,_ => rfl
theorem put_spec : ∀ (ls : List (List UInt8)) (T : HT) (lv v : Value) (d : List UInt8) (F : HP),ls ≠ [] → ls.length ≤ 1000000 → (∀ h,F h → rdS lv ls h) →
    CallsS Tryz.prog 37 #[.pointer (some ⟨T.g,0,none⟩),lv,v] F [htP T] (fun r Ps => ∃ T',T'.g = T.g ∧ r = .bool (canPut ls T) ∧ (canPut ls T = true → Put ls v d T T') ∧ Ps = [htP T'])
  | [],_,_,_,_,_,h,_,_ => absurd rfl h
  | n :: tl,.mk g gd gf dirs files,lv,v,d,F,_,hl2,hF => by
    cases hfil : lookA n files with
    | some p => exact put_file g gd gf dirs files lv v (n :: tl) n d (by simp) hl2 rfl F hF hfil (by cases tl <;> simp [canPut,hfil])
    | none =>
      cases tl with
      | nil =>
        cases hdir : lookA n dirs with
        | some t => exact put_one0 g gd gf dirs files lv v [n] n d (by simp) hl2 rfl F hF hfil hdir rfl (by simp [canPut,hfil,hdir])
        | none => exact put_one1 g gd gf dirs files lv v [n] n d (by simp) hl2 rfl F hF hfil hdir rfl (by simp [canPut,hfil,hdir]) (by simp [Put])
      | cons m q =>
        have hl3 : (m :: q).length ≤ 1000000:=by simp only [List.length_cons] at hl2 ⊢; omega
        cases hdir : lookA n dirs with
        | some t =>
          obtain ⟨a,c,hspl,hno⟩:=lookA_split hdir
          exact put_deepS g gd gf dirs files lv v (n :: m :: q) n d (by simp) hl2 rfl F hF hfil hdir (by simp) (m :: q) rfl (by rw [canPut,hfil,hdir]; rfl) hspl (fun T1 h => by rw [Put]; exact .inl ⟨a,c,t,T1,hspl,hno,h,rfl⟩)
            (fun F2 hF2 => put_spec (m :: q) t _ v d F2 (by simp) hl3 hF2)
        | none =>
          exact put_deepN g gd gf dirs files lv v (n :: m :: q) n d (by simp) hl2 rfl F hF hfil hdir (by simp) (m :: q) rfl (by rw [canPut,hfil,hdir]; rfl) (fun _ _ _ => canPut_nil _ (by simp) _ _ _) (fun g1 gd1 gf1 T1 h => by rw [Put]; exact .inr ⟨hdir,g1,gd1,gf1,T1,h,rfl⟩)
            (fun F2 hF2 g1 gd1 gf1 => (put_spec (m :: q) (.mk g1 gd1 gf1 [] []) _ v d F2 (by simp) hl3 hF2).imp fun r Ps ⟨T',h1,h2,h3,h4⟩ => by
              rw [canPut_nil _ (by simp)] at h2 h3
              exact ⟨T',h1,h2,h3 rfl,h4⟩)
theorem lookA_app {α : Type} (k : List UInt8) : ∀ (a b : List (List UInt8 × α)),lookA k (a ++ b) = (lookA k a).or (lookA k b)
  | [],b => by simp [lookA]
  | p :: a,b => by
    rw [List.cons_append,lookA,lookA,lookA_app k a b]
    split <;> rfl
def clash (p r : List (List UInt8)) : Bool:=p.isPrefixOf r || r.isPrefixOf p
theorem clash_cons (n : List UInt8) (p r : List (List UInt8)) : clash (n :: p) (n :: r) = clash p r:=by simp [clash,List.isPrefixOf]
theorem clash_ne {n m : List UInt8} (h : m ≠ n) (p r : List (List UInt8)) : clash (n :: p) (m :: r) = false:=by
  have h2 : n ≠ m:=fun e => h e.symm
  simp [clash,List.isPrefixOf,h,h2]
theorem canPut_put : ∀ (p : List (List UInt8)) (v : Value) (d : List UInt8) (T T' : HT),canPut p T = true → Put p v d T T' → ∀ r,r ≠ [] → canPut r T' = (canPut r T && !clash p r)
  | [],_,_,_,_,_,h,_,_ => by simp [Put] at h
  | [n],v,d,.mk g gd gf dirs files,T',hc,hp,r,hr => by
    simp only [Put] at hp
    subst hp
    simp only [canPut,Bool.and_eq_true,Option.isNone_iff_eq_none] at hc
    match r,hr with
    | [m],_ =>
      by_cases hm : m = n
      · subst hm
        simp [canPut,lookA_app,lookA,hc.1,clash,List.isPrefixOf]
      · rw [clash_ne hm]
        simp [canPut,lookA_app,lookA,hm]
    | m :: k :: q,_ =>
      by_cases hm : m = n
      · subst hm
        simp [canPut,lookA_app,lookA,hc.1,clash,List.isPrefixOf]
      · rw [clash_ne hm]
        simp [canPut,lookA_app,lookA,hm]
  | n :: k0 :: p,v,d,.mk g gd gf dirs files,T',hc,hp,r,hr => by
    simp only [Put] at hp
    rw [canPut,Bool.and_eq_true,Option.isNone_iff_eq_none] at hc
    obtain ⟨hc1,hc2⟩:=hc
    rcases hp with ⟨a,c,t,t',rfl,ha,hpt,rfl⟩ | ⟨hno,g1,gd1,gf1,t',hpt,rfl⟩
    · have hat : lookA n (a ++ (n,t) :: c) = some t:=by simp [lookA_app,lookA,ha]
      have hat' : lookA n (a ++ (n,t') :: c) = some t':=by simp [lookA_app,lookA,ha]
      have hoth : ∀ m,m ≠ n → lookA m (a ++ (n,t') :: c) = lookA m (a ++ (n,t) :: c):=fun m hm => by simp [lookA_app,lookA,hm]
      rw [hat] at hc2
      match r,hr with
      | [m],_ =>
        by_cases hm : m = n
        · subst hm
          simp [canPut,hat,hat']
        · rw [clash_ne hm]
          simp [canPut,hoth m hm]
      | m :: k :: q,_ =>
        by_cases hm : m = n
        · subst hm
          rw [clash_cons]
          simp only [canPut,hat,hat',hc1]
          have:=canPut_put (k0 :: p) v d t t' hc2 hpt (k :: q) (by simp)
          simpa using this
        · rw [clash_ne hm]
          simp [canPut,hoth m hm]
    · have hat' : lookA n (dirs ++ [(n,t')]) = some t':=by simp [lookA_app,lookA,hno]
      have hoth : ∀ m,m ≠ n → lookA m (dirs ++ [(n,t')]) = lookA m dirs:=fun m hm => by simp [lookA_app,lookA,hm]
      match r,hr with
      | [m],_ =>
        by_cases hm : m = n
        · subst hm
          simp [canPut,hat',clash,List.isPrefixOf]
        · rw [clash_ne hm]
          simp [canPut,hoth m hm]
      | m :: k :: q,_ =>
        by_cases hm : m = n
        · subst hm
          rw [clash_cons]
          simp only [canPut,hat',hno,hc1]
          have:=canPut_put (k0 :: p) v d _ t' (canPut_nil _ (by simp) g1 gd1 gf1) hpt (k :: q) (by simp)
          rw [canPut_nil _ (by simp)] at this
          simpa using this
        · rw [clash_ne hm]
          simp [canPut,hoth m hm]
def fits : List (List (List UInt8)) → List (List (List UInt8)) → Bool
  | _,[] => true
  | old,p :: ps => old.all (fun q => !clash q p) && fits (old ++ [p]) ps
mutual
def Fit (m : Nat) (R : Value → List UInt8 → Prop) : HT → Prop
  | .mk _ _ _ dirs files => dirs.length + files.length ≤ m ∧ (∀ x ∈ files,x.1.length ≤ 1000000 ∧ x.2.2.length ≤ 100000 ∧ R x.2.1 x.2.2) ∧ FitL m R dirs ∧ (files.map (·.1) ++ dirs.map (·.1)).Nodup
def FitL (m : Nat) (R : Value → List UInt8 → Prop) : List (List UInt8 × HT) → Prop
  | [] => True
  | d :: ds => d.1.length ≤ 1000000 ∧ Fit m R d.2 ∧ FitL m R ds
end
theorem Fit_mk {m : Nat} {R : Value → List UInt8 → Prop} {g gd gf : Nat} {dirs : List (List UInt8 × HT)} {files : List (List UInt8 × Value × List UInt8)} : Fit m R (.mk g gd gf dirs files) ↔ dirs.length + files.length ≤ m ∧ (∀ x ∈ files,x.1.length ≤ 1000000 ∧ x.2.2.length ≤ 100000 ∧ R x.2.1 x.2.2) ∧ FitL m R dirs ∧ (files.map (·.1) ++ dirs.map (·.1)).Nodup:=by rw [Fit]
theorem FitL_iff {m : Nat} {R : Value → List UInt8 → Prop} : ∀ {ds : List (List UInt8 × HT)},FitL m R ds ↔ ∀ d ∈ ds,d.1.length ≤ 1000000 ∧ Fit m R d.2
  | [] => by simp [FitL]
  | d :: ds => by rw [FitL,FitL_iff]; simp [and_assoc]
theorem Fit_nil (m : Nat) (R : Value → List UInt8 → Prop) (g gd gf : Nat) : Fit m R (.mk g gd gf [] []):=Fit_mk.2 ⟨by simp,by simp,FitL_iff.2 (by simp),by simp⟩
mutual
theorem Fit_mono {m m' : Nat} {R R' : Value → List UInt8 → Prop} (hm : m ≤ m') (hR : ∀ v d,R v d → R' v d) : ∀ {T : HT},Fit m R T → Fit m' R' T
  | .mk _ _ _ dirs files,h => by
    rw [Fit_mk] at h ⊢
    exact ⟨by omega,fun x hx => ⟨(h.2.1 x hx).1,(h.2.1 x hx).2.1,hR _ _ (h.2.1 x hx).2.2⟩,FitL_mono hm hR h.2.2.1,h.2.2.2⟩
theorem FitL_mono {m m' : Nat} {R R' : Value → List UInt8 → Prop} (hm : m ≤ m') (hR : ∀ v d,R v d → R' v d) : ∀ {ds : List (List UInt8 × HT)},FitL m R ds → FitL m' R' ds
  | [],_ => by rw [FitL]; trivial
  | d :: ds,h => by
    rw [FitL] at h ⊢
    exact ⟨h.1,Fit_mono hm hR h.2.1,FitL_mono hm hR h.2.2⟩
end
theorem lookA_none {α : Type} {k : List UInt8} : ∀ {es : List (List UInt8 × α)},lookA k es = none ↔ k ∉ es.map (·.1)
  | [] => by simp [lookA]
  | p :: es => by
    rw [lookA,List.map_cons,List.mem_cons,not_or]
    by_cases h : k = p.1
    · simp [h]
    · rw [if_neg h,lookA_none]
      simp [h]
theorem Fit_put {m : Nat} {R : Value → List UInt8 → Prop} : ∀ (p : List (List UInt8)) (v : Value) (d : List UInt8) (T T' : HT),canPut p T = true → Put p v d T T' → Fit m R T → (∀ x ∈ p,x.length ≤ 1000000) → d.length ≤ 100000 → R v d → Fit (m + 1) R T'
  | [],_,_,_,_,_,h,_,_,_,_ => by simp [Put] at h
  | [n],v,d,.mk g gd gf dirs files,T',hc,hp,hf,hx,hd,hv => by
    simp only [Put] at hp
    subst hp
    simp only [canPut,Bool.and_eq_true,Option.isNone_iff_eq_none] at hc
    rw [lookA_none,lookA_none] at hc
    rw [Fit_mk] at hf ⊢
    refine ⟨by rw [List.length_append,List.length_singleton]; omega,fun x hx2 => ?_,FitL_mono (by omega) (fun _ _ h => h) hf.2.2.1,?_⟩
    rotate_left
    · have hn:=hf.2.2.2
      rw [List.map_append,List.map_cons,List.map_nil,List.append_assoc]
      refine (List.perm_middle.nodup_iff).2 (List.nodup_cons.2 ⟨fun hm => ?_,hn⟩)
      rcases List.mem_append.1 hm with hm | hm
      · exact hc.1 hm
      · exact hc.2 hm
    rcases List.mem_append.1 hx2 with h | h
    · exact hf.2.1 x h
    · rw [List.mem_singleton.1 h]; exact ⟨hx n (by simp),hd,hv⟩
  | n :: k :: p,v,d,.mk g gd gf dirs files,T',hc,hp,hf,hx,hd,hv => by
    simp only [Put] at hp
    rw [canPut,Bool.and_eq_true,Option.isNone_iff_eq_none] at hc
    obtain ⟨hc1,hc2⟩:=hc
    have hx' : ∀ x ∈ k :: p,x.length ≤ 1000000:=fun x h => hx x (List.mem_cons_of_mem _ h)
    rcases hp with ⟨a,c,t,t',rfl,ha,hpt,rfl⟩ | ⟨hno,g1,gd1,gf1,t',hpt,rfl⟩
    · have hat : lookA n (a ++ (n,t) :: c) = some t:=by simp [lookA_app,lookA,ha]
      rw [hat] at hc2
      rw [Fit_mk,FitL_iff] at hf ⊢
      refine ⟨by simp only [List.length_append,List.length_cons] at hf ⊢; omega,hf.2.1,fun x hx2 => ?_,by have:=hf.2.2.2; simpa using this⟩
      have ht:=hf.2.2.1 (n,t) (by simp)
      rcases List.mem_append.1 hx2 with h | h
      · have:=hf.2.2.1 x (by simp [h]); exact ⟨this.1,Fit_mono (by omega) (fun _ _ h => h) this.2⟩
      · rcases List.mem_cons.1 h with rfl | h
        · exact ⟨ht.1,Fit_put (k :: p) v d t t' hc2 hpt ht.2 hx' hd hv⟩
        · have:=hf.2.2.1 x (by simp [h]); exact ⟨this.1,Fit_mono (by omega) (fun _ _ h => h) this.2⟩
    · rw [Fit_mk,FitL_iff] at hf ⊢
      refine ⟨by simp only [List.length_append,List.length_singleton] at hf ⊢; omega,hf.2.1,fun x hx2 => ?_,?_⟩
      rotate_left
      · have hn:=hf.2.2.2
        rw [lookA_none] at hc1 hno
        rw [List.map_append,List.map_cons,List.map_nil,← List.append_assoc]
        refine (List.perm_middle.nodup_iff).2 (List.nodup_cons.2 ⟨fun hm => ?_,by rw [List.append_nil]; exact hn⟩)
        rw [List.append_nil] at hm
        rcases List.mem_append.1 hm with hm | hm
        · exact hc1 hm
        · exact hno hm
      rcases List.mem_append.1 hx2 with h | h
      · have:=hf.2.2.1 x h; exact ⟨this.1,Fit_mono (by omega) (fun _ _ h => h) this.2⟩
      · rw [List.mem_singleton.1 h]
        exact ⟨hx n (by simp),Fit_put (k :: p) v d _ t' (canPut_nil _ (by simp) _ _ _) hpt (Fit_nil m R g1 gd1 gf1) hx' hd hv⟩
end Go.Proofs.YthkdkmaacjpneaaGreatDoor
namespace Go.Proofs.YthkdkmaacjpneaaGreatDoor
open Go.RowKit Go.Shelf
def srtRE : Ren:={
  f:=fun n => match n with
    | 6 => 65
    | 14 => 96
    | 15 => 70
    | 20 => 130
    | 21 => 131
    | 22 => 132
    | 23 => 133
    | 24 => 134
    | 25 => 135
    | 26 => 136
    | 27 => 137
    | 28 => 107
    | 29 => 108
    | 46 => 157
    | 47 => 140
    | 48 => 141
    | 49 => 158
    | 50 => 159
    | 57 => 170
    | n => n,
  t:=fun n => match n with
    | 0 => 0
    | 3 => 3
    | 4 => 4
    | 5 => 5
    | 9 => 9
    | 22 => 118
    | 24 => 122
    | 25 => 143
    | 39 => 110
    | 45 => 177
    | 46 => 178
    | 50 => 182
    | 53 => 105
    | 55 => 109
    | 66 => 210
    | 70 => 214
    | 76 => 227
    | 77 => 228
    | n => n,
  g:=fun n => n }
theorem laysSrtE : SlLaysF0.n6 Tryz.prog srtRE where
  mixed:=by kernel_rfl
  f6:=⟨ "slices.SortFunc[[]lattice/api.Entry,lattice/api.Entry]",by decide,by kernel_rfl⟩
  f14:=⟨ "slices.pdqsortCmpFunc[lattice/api.Entry]",by decide,by kernel_rfl⟩
  f15:=by kernel_rfl
  f20:=⟨ "slices.insertionSortCmpFunc[lattice/api.Entry]",by decide,by kernel_rfl⟩
  f21:=⟨ "slices.heapSortCmpFunc[lattice/api.Entry]",by decide,by kernel_rfl⟩
  f22:=⟨ "slices.breakPatternsCmpFunc[lattice/api.Entry]",by decide,by kernel_rfl⟩
  f23:=⟨ "slices.choosePivotCmpFunc[lattice/api.Entry]",by decide,by kernel_rfl⟩
  f24:=⟨ "slices.reverseRangeCmpFunc[lattice/api.Entry]",by decide,by kernel_rfl⟩
  f25:=⟨ "slices.partialInsertionSortCmpFunc[lattice/api.Entry]",by decide,by kernel_rfl⟩
  f26:=⟨ "slices.partitionEqualCmpFunc[lattice/api.Entry]",by decide,by kernel_rfl⟩
  f27:=⟨ "slices.partitionCmpFunc[lattice/api.Entry]",by decide,by kernel_rfl⟩
  f28:=by kernel_rfl
  f29:=by kernel_rfl
  f46:=⟨ "slices.siftDownCmpFunc[lattice/api.Entry]",by decide,by kernel_rfl⟩
  f47:=by kernel_rfl
  f48:=by kernel_rfl
  f49:=⟨ "slices.medianAdjacentCmpFunc[lattice/api.Entry]",by decide,by kernel_rfl⟩
  f50:=⟨ "slices.medianCmpFunc[lattice/api.Entry]",by decide,by kernel_rfl⟩
  f57:=⟨ "slices.order2CmpFunc[lattice/api.Entry]",by decide,by kernel_rfl⟩
  t0:=Tryz.underlying0
  a0:=Tryz.isAgg0
  z0:=Tryz.sizeOf0
  v0:=Tryz.zeroValue0
  t3:=Tryz.underlying3
  a3:=Tryz.isAgg3
  z3:=Tryz.sizeOf3
  v3:=Tryz.zeroValue3
  t4:=Tryz.underlying4
  a4:=Tryz.isAgg4
  z4:=Tryz.sizeOf4
  v4:=Tryz.zeroValue4
  t5:=Tryz.underlying5
  a5:=Tryz.isAgg5
  z5:=Tryz.sizeOf5
  v5:=Tryz.zeroValue5
  t9:=Tryz.underlying9
  a9:=Tryz.isAgg9
  z9:=Tryz.sizeOf9
  v9:=Tryz.zeroValue9
  t22:=Tryz.underlying118
  a22:=Tryz.isAgg118
  z22:=Tryz.sizeOf118
  v22:=Tryz.zeroValue118
  t25:=Tryz.underlying143
  a25:=Tryz.isAgg143
  z25:=Tryz.sizeOf143
  v25:=Tryz.zeroValue143
  t39:=Tryz.underlying110
  a39:=Tryz.isAgg110
  z39:=Tryz.sizeOf110
  v39:=Tryz.zeroValue110
  t45:=Tryz.underlying177
  a45:=Tryz.isAgg177
  z45:=Tryz.sizeOf177
  v45:=Tryz.zeroValue177
  t46:=Tryz.underlying178
  a46:=Tryz.isAgg178
  z46:=Tryz.sizeOf178
  v46:=Tryz.zeroValue178
  t50:=Tryz.underlying182
  a50:=Tryz.isAgg182
  z50:=Tryz.sizeOf182
  v50:=Tryz.zeroValue182
  t53:=Tryz.underlying105
  a53:=Tryz.isAgg105
  z53:=Tryz.sizeOf105
  v53:=Tryz.zeroValue105
  t55:=Tryz.underlying109
  a55:=Tryz.isAgg109
  z55:=Tryz.sizeOf109
  v55:=Tryz.zeroValue109
  t66:=Tryz.underlying210
  a66:=Tryz.isAgg210
  z66:=Tryz.sizeOf210
  v66:=Tryz.zeroValue210
  t70:=Tryz.underlying214
  a70:=Tryz.isAgg214
  z70:=Tryz.sizeOf214
  v70:=Tryz.zeroValue214
  t76:=Tryz.underlying227
  a76:=Tryz.isAgg227
  z76:=Tryz.sizeOf227
  v76:=Tryz.zeroValue227
  t77:=Tryz.underlying228
  a77:=Tryz.isAgg228
  z77:=Tryz.sizeOf228
  v77:=Tryz.zeroValue228
end Go.Proofs.YthkdkmaacjpneaaGreatDoor
namespace Go.Proofs.YthkdkmaacjpneaaGreatDoor
open Go.RowKit Go.Shelf
def srtRB : Ren:={
  f:=fun n => match n with
    | 6 => 39
    | 14 => 69
    | 15 => 70
    | 20 => 99
    | 21 => 100
    | 22 => 101
    | 23 => 102
    | 24 => 103
    | 25 => 104
    | 26 => 105
    | 27 => 106
    | 28 => 107
    | 29 => 108
    | 46 => 139
    | 47 => 140
    | 48 => 141
    | 49 => 142
    | 50 => 143
    | 57 => 160
    | n => n,
  t:=fun n => match n with
    | 0 => 0
    | 3 => 3
    | 4 => 4
    | 5 => 5
    | 9 => 9
    | 22 => 27
    | 24 => 59
    | 25 => 92
    | 39 => 110
    | 45 => 177
    | 46 => 178
    | 50 => 182
    | 53 => 105
    | 55 => 109
    | 66 => 210
    | 70 => 214
    | 76 => 227
    | 77 => 228
    | n => n,
  g:=fun n => n }
theorem laysSrtB : SlLaysF0.n6 Tryz.prog srtRB where
  mixed:=by kernel_rfl
  f6:=⟨ "slices.SortFunc[[]lattice/api.Block,lattice/api.Block]",by decide,by kernel_rfl⟩
  f14:=⟨ "slices.pdqsortCmpFunc[lattice/api.Block]",by decide,by kernel_rfl⟩
  f15:=by kernel_rfl
  f20:=⟨ "slices.insertionSortCmpFunc[lattice/api.Block]",by decide,by kernel_rfl⟩
  f21:=⟨ "slices.heapSortCmpFunc[lattice/api.Block]",by decide,by kernel_rfl⟩
  f22:=⟨ "slices.breakPatternsCmpFunc[lattice/api.Block]",by decide,by kernel_rfl⟩
  f23:=⟨ "slices.choosePivotCmpFunc[lattice/api.Block]",by decide,by kernel_rfl⟩
  f24:=⟨ "slices.reverseRangeCmpFunc[lattice/api.Block]",by decide,by kernel_rfl⟩
  f25:=⟨ "slices.partialInsertionSortCmpFunc[lattice/api.Block]",by decide,by kernel_rfl⟩
  f26:=⟨ "slices.partitionEqualCmpFunc[lattice/api.Block]",by decide,by kernel_rfl⟩
  f27:=⟨ "slices.partitionCmpFunc[lattice/api.Block]",by decide,by kernel_rfl⟩
  f28:=by kernel_rfl
  f29:=by kernel_rfl
  f46:=⟨ "slices.siftDownCmpFunc[lattice/api.Block]",by decide,by kernel_rfl⟩
  f47:=by kernel_rfl
  f48:=by kernel_rfl
  f49:=⟨ "slices.medianAdjacentCmpFunc[lattice/api.Block]",by decide,by kernel_rfl⟩
  f50:=⟨ "slices.medianCmpFunc[lattice/api.Block]",by decide,by kernel_rfl⟩
  f57:=⟨ "slices.order2CmpFunc[lattice/api.Block]",by decide,by kernel_rfl⟩
  t0:=Tryz.underlying0
  a0:=Tryz.isAgg0
  z0:=Tryz.sizeOf0
  v0:=Tryz.zeroValue0
  t3:=Tryz.underlying3
  a3:=Tryz.isAgg3
  z3:=Tryz.sizeOf3
  v3:=Tryz.zeroValue3
  t4:=Tryz.underlying4
  a4:=Tryz.isAgg4
  z4:=Tryz.sizeOf4
  v4:=Tryz.zeroValue4
  t5:=Tryz.underlying5
  a5:=Tryz.isAgg5
  z5:=Tryz.sizeOf5
  v5:=Tryz.zeroValue5
  t9:=Tryz.underlying9
  a9:=Tryz.isAgg9
  z9:=Tryz.sizeOf9
  v9:=Tryz.zeroValue9
  t22:=Tryz.underlying27
  a22:=Tryz.isAgg27
  z22:=Tryz.sizeOf27
  v22:=Tryz.zeroValue27
  t25:=Tryz.underlying92
  a25:=Tryz.isAgg92
  z25:=Tryz.sizeOf92
  v25:=Tryz.zeroValue92
  t39:=Tryz.underlying110
  a39:=Tryz.isAgg110
  z39:=Tryz.sizeOf110
  v39:=Tryz.zeroValue110
  t45:=Tryz.underlying177
  a45:=Tryz.isAgg177
  z45:=Tryz.sizeOf177
  v45:=Tryz.zeroValue177
  t46:=Tryz.underlying178
  a46:=Tryz.isAgg178
  z46:=Tryz.sizeOf178
  v46:=Tryz.zeroValue178
  t50:=Tryz.underlying182
  a50:=Tryz.isAgg182
  z50:=Tryz.sizeOf182
  v50:=Tryz.zeroValue182
  t53:=Tryz.underlying105
  a53:=Tryz.isAgg105
  z53:=Tryz.sizeOf105
  v53:=Tryz.zeroValue105
  t55:=Tryz.underlying109
  a55:=Tryz.isAgg109
  z55:=Tryz.sizeOf109
  v55:=Tryz.zeroValue109
  t66:=Tryz.underlying210
  a66:=Tryz.isAgg210
  z66:=Tryz.sizeOf210
  v66:=Tryz.zeroValue210
  t70:=Tryz.underlying214
  a70:=Tryz.isAgg214
  z70:=Tryz.sizeOf214
  v70:=Tryz.zeroValue214
  t76:=Tryz.underlying227
  a76:=Tryz.isAgg227
  z76:=Tryz.sizeOf227
  v76:=Tryz.zeroValue227
  t77:=Tryz.underlying228
  a77:=Tryz.isAgg228
  z77:=Tryz.sizeOf228
  v77:=Tryz.zeroValue228
end Go.Proofs.YthkdkmaacjpneaaGreatDoor
namespace Go.Proofs.YthkdkmaacjpneaaGreatDoor
open Go.RowKit Go.Shelf Go.Lib Go.Sort
section
variable {α : Type} [Inhabited α] {enc : α → List Value} {k : Nat}
theorem flat_rec (hk : ∀ x,(enc x).length = k) (xs : List α) (j : Nat) (hj : j < xs.length * k) : (recC enc xs)[j]? = some ((flatK enc k xs.toArray)[j]!):=by
  have k0 : 0 < k:=by
    rcases Nat.eq_zero_or_pos k with h | h
    · subst h; simp at hj
    · exact h
  have hq : j / k < xs.length:=by rw [Nat.div_lt_iff_lt_mul k0]; exact hj
  have hr : j % k < k:=Nat.mod_lt _ k0
  have h:=recC_at (f:=enc) (S:=k) (es:=xs) (d:=default) (fun e _ => hk e) hq hr
  rw [show j / k * k + j % k = j by rw [Nat.mul_comm]; exact Nat.div_add_mod j k] at h
  rw [h,get_flatK _ _ _ _ (by simpa using hj)]
  have e1 : xs.getD (j / k) default = xs.toArray[j / k]!:=by simp [hq]
  rw [e1,List.getElem?_eq_getElem (by rw [hk]; exact hr)]
  rw [getElem!_pos (enc xs.toArray[j / k]!) (j % k) (by rw [hk]; exact hr)]
theorem sort_put {E : Env} {L : Res} {w : World} {r g m : Nat} {e : TypeId} {cap : Nat} {xs ys : List α} {os : Array Obj} (hk : ∀ x,(enc x).length = k) (hS : Sat E L w) (hr : look L r = some (rowP e k (.slice (some ⟨g,0,none⟩) xs.length cap) xs.length (recC enc xs))) (hl : ys.length = xs.length) :
    Sat E ((r,rowP e k (.slice (some ⟨g,0,none⟩) xs.length cap) ys.length (recC enc ys)) :: L) (sortWorldK enc k w g 0 m ys.toArray os) :=
  hS.step hr fun h hp hin => by
    obtain ⟨h1,h2⟩:=hp
    rcases h2 with ⟨h2,_⟩ | ⟨g',cap',cur,hv,hg,hn,hcap,hcs,htk⟩
    · cases h2
    · injection hv with hv1 hv2 hv3
      injection hv1 with hv1
      injection hv1 with hv1 _ _
      subst hv1; subst hv3
      have hw:=hin _ _ hg
      have hlt:=lt_of_heap hw
      have hnk : xs.length * k ≤ cur.size:=by rw [hcs]; exact Nat.mul_le_mul_right k hn
      have hw' : (sortWorldK enc k w g 0 m ys.toArray os).heap[g]? = some (.cells (putCells id 0 (flatK enc k ys.toArray) cur) e (0,0)):=by
        unfold sortWorldK grow putRowK putRow mapBlock Sort.ahead
        simp only
        rw [Array.getElem?_append_left (by rw [Array.size_modify]; exact hlt),Array.getElem?_modify,if_pos rfl,hw]
        rfl
      refine ⟨[g],single g (.cells (putCells id 0 (flatK enc k ys.toArray) cur) e (0,0)),by simp [hg],⟨rfl,rfl,rfl,?_,fun q hq hm => ?_⟩,⟨?_,.inr ⟨g,cap,putCells id 0 (flatK enc k ys.toArray) cur,by rw [hl],single_same _ _,by omega,hcap,by simp [putCells,hcs],?_⟩⟩,single_in hw',fun q hq => .inl (by rw [single_dom hq,hg]; rfl)⟩
      · unfold sortWorldK grow putRowK putRow mapBlock Sort.ahead
        simp
      · unfold sortWorldK grow putRowK putRow mapBlock Sort.ahead
        simp only
        rw [Array.getElem?_append_left (by rw [Array.size_modify]; exact hq),Array.getElem?_modify,if_neg (fun h => hm (by simp [h]))]
      · exact recC_length fun e _ => hk e
      · apply List.ext_getElem?
        intro j
        rw [List.getElem?_take]
        split
        · rename_i hj
          rw [flat_rec hk ys j hj,Array.getElem?_toList]
          unfold putCells
          rw [Array.getElem?_mapIdx,Array.getElem?_eq_getElem (show j < cur.size by rw [hl] at hj; omega),Option.map_some,if_pos ⟨Nat.zero_le _,by simpa using hj⟩]
          rfl
        · rename_i hj
          rw [List.getElem?_eq_none (by rw [recC_length fun e _ => hk e]; omega)]
theorem sortFunc_S {P : Program} {ρ : Ren} (L : SlLaysF0.n6 P ρ) {e : TypeId} (aE : ∀ w,(isAgg (ρ.t 24)).run P w = .ok true w) (zE : ∀ w,(Go.sizeOf (ρ.t 24)).run P w = .ok k w) (hk : ∀ x,(enc x).length = k) (h1 : ∀ x,∀ v ∈ enc x,v.oneCell' = true) (cf : α → α → Int) (hO : SWO (ltOf cf)) (g : Nat) (cb : Array Value)
    (eg : ∀ args w,(callFunc g args).run P w = .ok (.enter g args) w) (hcmp : ∀ blk off size w,CmpLays P g cb enc k cf blk off size w) (v : Value) (xs : List α) (hlen : xs.length < 4611686018427387904) (F : HP) :
    CallsS P (ρ.f 6) #[v,.func (.func g) #[] cb] F [rowP e k v xs.length (recC enc xs)] (fun r Ps => r = .tuple #[] ∧ ∃ ys,ys.Perm xs ∧ ys.Pairwise (fun a b => ltOf cf b a = false) ∧ Ps = [rowP e k v ys.length (recC enc ys)]):=by
  intro E w hS
  obtain ⟨h,q1,q2⟩:=hS.read (r:=1) rfl
  obtain ⟨h2,h3⟩:=q1
  rcases h3 with ⟨rfl,h4⟩ | ⟨gb,cap,cur,rfl,hg,hn,hcap,hcs,htk⟩
  · have hx : xs = []:=List.length_eq_zero_iff.1 h4
    subst hx
    refine (AnyF.slices_SortFunc_none L none 0 _ w).mono ?_
    rintro e' w' ⟨rfl,rfl⟩
    exact ⟨_,_,rfl,⟨rfl,[],List.Perm.refl _,List.Pairwise.nil,rfl⟩,hS⟩
  · have hw:=q2 _ _ hg
    have hnk : xs.length * k ≤ cur.size:=by rw [hcs]; exact Nat.mul_le_mul_right k hn
    have hH : HoldsK enc k w gb 0 xs.toArray:=by
      intro j hj
      have hj' : j < xs.length * k:=by simpa using hj
      refine ⟨?_,by simp [World.frozen?,hw]⟩
      have hx:=flat_rec hk xs j hj'
      rw [← htk,List.getElem?_take,if_pos hj',Array.getElem?_toList] at hx
      simp only [World.cell?,hw,Nat.zero_add,Option.isSome_none,Bool.false_eq_true,if_false]
      exact hx
    have:=AnyQ.slices_SortFunc L k aE zE enc hk h1 cf hO g cb gb 0 cap xs.toArray w eg (hcmp _ _ _ _) hH (lt_of_heap hw) (by simpa using hlen)
    rw [show xs.toArray.size = xs.length by simp] at this
    refine this.mono ?_
    rintro e' w' ⟨rfl,d',m,os,hp,hs,rfl⟩
    have hd : d'.size = xs.length:=by have:=hp.1; simpa using this
    refine ⟨_,_,rfl,⟨rfl,d'.toList,?_,?_,rfl⟩,?_⟩
    · have:=hp.2.2
      rw [show d'.extract 0 xs.length = d' by rw [← hd]; simp,show xs.toArray.extract 0 xs.length = xs.toArray by simp] at this
      simpa using this
    · rw [List.pairwise_iff_getElem]
      intro i j hi hj hij
      have:=hs i j (Nat.zero_le _) hij (by simpa [hd] using hj)
      rw [getElem!_pos d' i (by simpa using hi),getElem!_pos d' j (by simpa using hj)] at this
      simpa using this
    · have:=(sort_put (m:=m) (os:=os) hk hS (r:=1) rfl (ys:=d'.toList) (by simpa using hd)).pick (ids:=[0,1]) (Ps:=[F,rowP e k (.slice (some ⟨gb,0,none⟩) xs.length cap) d'.toList.length (recC enc d'.toList)]) ⟨rfl,rfl,trivial⟩ (by decide)
      simpa using this
end
open Go.RowKit
def ltK : List UInt8 → List UInt8 → Bool
  | [],[] => false
  | [],_ :: _ => true
  | _ :: _,[] => false
  | x :: a,y :: b => decide (x < y) || (decide (x = y) && ltK a b)
theorem u8_lt_irrefl (x : UInt8) : ¬ x < x:=by rw [UInt8.lt_iff_toNat_lt]; omega
theorem ltK_irrefl : ∀ a,ltK a a = false
  | [] => rfl
  | x :: a => by simp [ltK,ltK_irrefl a,u8_lt_irrefl]
theorem ltK_trans : ∀ a b c,ltK a b = true → ltK b c = true → ltK a c = true
  | [],[],c,h,_ => by simp [ltK] at h
  | [],y :: b,[],_,h => by simp [ltK] at h
  | [],y :: b,z :: c,_,_ => rfl
  | x :: a,[],c,h,_ => by simp [ltK] at h
  | x :: a,y :: b,[],_,h => by simp [ltK] at h
  | x :: a,y :: b,z :: c,h1,h2 => by
    simp only [ltK,Bool.or_eq_true,Bool.and_eq_true,decide_eq_true_eq,UInt8.lt_iff_toNat_lt,← UInt8.toNat_inj] at h1 h2 ⊢
    rcases h1 with h1 | ⟨h1,h1'⟩ <;> rcases h2 with h2 | ⟨h2,h2'⟩
    · left; omega
    · left; omega
    · left; omega
    · right; exact ⟨by omega,ltK_trans a b c h1' h2'⟩
theorem ltK_tri : ∀ a b,a.length = b.length → ltK a b = false → ltK b a = false → a = b
  | [],[],_,_,_ => rfl
  | [],_ :: _,h,_,_ => by simp at h
  | _ :: _,[],h,_,_ => by simp at h
  | x :: a,y :: b,h,h1,h2 => by
    simp only [ltK,Bool.or_eq_false_iff,Bool.and_eq_false_iff,decide_eq_false_iff_not,UInt8.lt_iff_toNat_lt,← UInt8.toNat_inj] at h1 h2
    have hxy : x = y:=UInt8.toNat_inj.1 (by omega)
    subst hxy
    rw [ltK_tri a b (by simpa using h) (by simpa using h1.2) (by simpa using h2.2)]
theorem ltK_ntrans (a b c : List UInt8) (h1 : a.length = b.length) (h2 : b.length = c.length) (hab : ltK a b = false) (hbc : ltK b c = false) : ltK a c = false:=by
  cases h : ltK a c with
  | false => rfl
  | true =>
    exfalso
    cases hba : ltK b a with
    | false => rw [ltK_tri a b h1 hab hba] at h; rw [h] at hbc; cases hbc
    | true =>
      cases hcb : ltK c b with
      | false =>
        rw [← ltK_tri b c h2 hbc hcb] at h
        rw [h] at hab; cases hab
      | true =>
        have:=ltK_trans a c b h hcb
        rw [this] at hab; cases hab
theorem ltK_at : ∀ (p : List UInt8) (x y : UInt8) (a b : List UInt8),x ≠ y → ltK (p ++ x :: a) (p ++ y :: b) = decide (x < y)
  | [],x,y,a,b,h => by simp [ltK,h]
  | z :: p,x,y,a,b,h => by simp [ltK,u8_lt_irrefl,ltK_at p x y a b h]
theorem split_at (a b : List UInt8) (i : Nat) (ha : i < a.length) (hb : i < b.length) (h : ∀ j,j < i → a[j]? = b[j]?) : a.take i = b.take i:=by
  apply List.ext_getElem?
  intro j
  rw [List.getElem?_take,List.getElem?_take]
  split
  · rename_i hj; exact h j hj
  · rfl
theorem ba_get (l : List UInt8) (i : Nat) (h : i < l.length) : (⟨l.toArray⟩ : ByteArray)[i]! = l[i]:=by
  rw [getElem!_pos (⟨l.toArray⟩ : ByteArray) i (by show i < l.toArray.size; simpa using h)]
  rfl
theorem cmp_lt (a b : List UInt8) (h : a.length = b.length) : decide (Extern.BytealgCompare.cmp ⟨a.toArray⟩ ⟨b.toArray⟩ < 0) = ltK a b:=by
  unfold Extern.BytealgCompare.cmp
  rw [show (⟨a.toArray⟩ : ByteArray).size = a.length by show a.toArray.size = _; simp,show (⟨b.toArray⟩ : ByteArray).size = b.length by show b.toArray.size = _; simp,h,Nat.min_self]
  cases hf : (List.range b.length).find? fun i => (⟨a.toArray⟩ : ByteArray)[i]! != (⟨b.toArray⟩ : ByteArray)[i]! with
  | none =>
    rw [List.find?_eq_none] at hf
    have : a = b:=by
      apply List.ext_getElem h
      intro i h1 h2
      have:=hf i (List.mem_range.2 h2)
      rw [ba_get a i h1,ba_get b i h2] at this
      simpa using this
    subst this
    simp [ltK_irrefl]
  | some i =>
    have hi : i < b.length:=List.mem_range.1 (List.mem_of_find?_eq_some hf)
    have hne:=List.find?_some hf
    have hbef : ∀ j,j < i → a[j]? = b[j]?:=by
      intro j hj
      rw [List.find?_range_eq_some] at hf
      have:=hf.2.2 j hj
      rw [ba_get a j (by omega),ba_get b j (by omega)] at this
      rw [List.getElem?_eq_getElem (by omega),List.getElem?_eq_getElem (by omega)]
      simpa using this
    rw [ba_get a i (by omega),ba_get b i hi] at hne
    have hne : a[i] ≠ b[i]:=by simpa using hne
    have ea : a = a.take i ++ a[i] :: a.drop (i + 1):=by rw [← List.drop_eq_getElem_cons,List.take_append_drop]
    have eb : b = a.take i ++ b[i] :: b.drop (i + 1):=by rw [split_at a b i (by omega) hi hbef,← List.drop_eq_getElem_cons,List.take_append_drop]
    have hk : ltK a b = decide (a[i] < b[i]):=(congr (congrArg ltK ea) eb).trans (ltK_at _ _ _ _ _ hne)
    rw [hk]
    simp only [ba_get a i (by omega),ba_get b i hi]
    by_cases hlt : a[i] < b[i] <;> simp [hlt]
theorem run_loadL {P : Program} (w : World) : ∀ (l : List UInt8) (a : Addr) (acc : ByteArray),(∀ j x,l[j]? = some x → w.cell? (a.add j) = some (bv x)) → (Extern.Bytes.loadBytes a l.length acc).run P w = .ok ⟨acc.data ++ l.toArray⟩ w
  | [],a,acc,_ => by simp [Extern.Bytes.loadBytes]
  | x :: l,a,acc,h => by
    have h0 : w.cell? a = some (.int .u8 (x.toNat : Int)):=by
      have:=h 0 x rfl
      simpa [Addr.add,bv] using this
    have ih:=run_loadL (P:=P) w l (a.add 1) (acc.push x) (fun j y hy => by
      have:=h (j + 1) y (by simpa using hy)
      rw [add_of_add,Nat.add_comm 1 j]
      exact this)
    simp only [List.length_cons,Extern.Bytes.loadBytes,Sem.run_bind,run_load,h0,Result.andThen]
    have e : ((x.toNat : Int).toNat.toUInt8) = x:=by simp
    rw [e,ih]
    congr 1
    apply ByteArray.ext
    simp [ByteArray.push]
open Go.RowKit
def bkC (k : List UInt8) (v : Value) (s e : Int) : List Value:=bs k ++ [v,.int .i64 s,.int .i64 e]
abbrev BV:={ m : List UInt8 × Value × Int × Int // m.1.length = 32 ∧ m.2.1.oneCell' = true }
def BV.key (x : BV) : List UInt8:=x.1.1
def BV.sl (x : BV) : Value:=x.1.2.1
def BV.src (x : BV) : Int:=x.1.2.2.1
def BV.exp (x : BV) : Int:=x.1.2.2.2
instance : Inhabited BV:=⟨⟨(zeroId,.slice none 0 0,0,0),by decide,rfl⟩⟩
def bvC (x : BV) : List Value:=bkC x.key x.sl x.src x.exp
theorem BV.len (x : BV) : x.key.length = 32:=x.2.1
theorem BV.one (x : BV) : x.sl.oneCell' = true:=x.2.2
theorem bkC_length {k : List UInt8} {v : Value} {s e : Int} (h : k.length = 32) : (bkC k v s e).length = 35:=by simp [bkC,bs_length,h]
theorem bvC_length (x : BV) : (bvC x).length = 35:=bkC_length x.len
theorem bkC_one {k : List UInt8} {v : Value} {s e : Int} (h : v.oneCell' = true) : ∀ u ∈ bkC k v s e,u.oneCell' = true:=by
  intro u hu
  rcases List.mem_append.1 hu with hu | hu
  · exact bs_one k u hu
  · simp at hu
    rcases hu with rfl | rfl | rfl
    · exact h
    · rfl
    · rfl
theorem bvC_one : ∀ x : BV,∀ u ∈ bvC x,u.oneCell' = true:=fun x => bkC_one x.one
section
variable {k : List UInt8} {v : Value} {s e : Int} (h : k.length = 32)
include h
theorem bk_data : (bkC k v s e)[32]? = some v:=by
  unfold bkC; rw [List.getElem?_append_right (by rw [bs_length]; omega),bs_length,h]; rfl
theorem bk_key : ((bkC k v s e).drop 0).take 32 = bs k:=by
  unfold bkC; rw [List.drop_zero,List.take_append_of_le_length (by rw [bs_length]; omega)]
  exact List.take_of_length_le (by rw [bs_length]; omega)
theorem bk_set_data (v' : Value) : (bkC k v s e).set 32 v' = bkC k v' s e:=by
  unfold bkC; rw [List.set_append_right _ _ (by rw [bs_length]; omega),bs_length,h]; rfl
end
end Go.Proofs.YthkdkmaacjpneaaGreatDoor
namespace Go.Proofs.YthkdkmaacjpneaaGreatDoor
open Go.RowKit Go.Shelf Go.Lib Go.Sort
set_option maxRecDepth 8000
theorem cmp_less : ∀ a b : List UInt8,decide (Lib.compareBytes a b < 0) = Op.bytesLess a b
  | [],[] => rfl
  | [],_ :: _ => rfl
  | _ :: _,[] => rfl
  | x :: a,y :: b => by
    have ih:=cmp_less a b
    simp only [Lib.compareBytes,Op.bytesLess]
    rcases Nat.lt_trichotomy x.toNat y.toNat with h | h | h
    · have h1 : x < y:=UInt8.lt_iff_toNat_lt.2 h
      simp [h1]
    · have h0 : x = y:=UInt8.toNat_inj.1 h
      subst h0
      have h1 : ¬ x < x:=fun hc => by have:=UInt8.lt_iff_toNat_lt.1 hc; omega
      simp only [h1,if_false,beq_self_eq_true,Bool.true_and,decide_false,Bool.false_or]
      exact ih
    · have h1 : y < x:=UInt8.lt_iff_toNat_lt.2 h
      have h2 : ¬ x < y:=fun hc => by have:=UInt8.lt_iff_toNat_lt.1 hc; omega
      have h3 : (x == y) = false:=by simp; intro hc; subst hc; omega
      simp [h1,h2,h3]
theorem less_trans : ∀ a b c : List UInt8,Op.bytesLess a b = true → Op.bytesLess b c = true → Op.bytesLess a c = true
  | a,[],c,h,_ => by cases a <;> cases h
  | [],y :: b,[],_,h => by cases h
  | [],y :: b,z :: c,_,_ => rfl
  | x :: a,y :: b,[],_,h => by cases h
  | x :: a,y :: b,z :: c,h1,h2 => by
    simp only [Op.bytesLess,Bool.or_eq_true,Bool.and_eq_true,decide_eq_true_eq,beq_iff_eq] at h1 h2 ⊢
    rcases h1 with h1 | ⟨rfl,h1⟩
    · rcases h2 with h2 | ⟨rfl,h2⟩
      · exact .inl (by rw [UInt8.lt_iff_toNat_lt] at *; omega)
      · exact .inl h1
    · rcases h2 with h2 | ⟨rfl,h2⟩
      · exact .inl h2
      · exact .inr ⟨rfl,less_trans a b c h1 h2⟩
theorem less_ntrans (a b c : List UInt8) (h1 : Op.bytesLess a b = false) (h2 : Op.bytesLess b c = false) : Op.bytesLess a c = false:=by
  cases h : Op.bytesLess a c with
  | false => rfl
  | true =>
    have:=less_tri b c
    rw [h2] at this
    rcases Bool.eq_false_or_eq_true (Op.bytesLess c b) with h3 | h3
    · rw [less_trans a c b h h3] at h1; cases h1
    · rw [h3] at this
      have hcb : c = b:=by simpa using this
      subst hcb
      rw [h] at h1; cases h1
theorem less_anti {a b : List UInt8} (h1 : Op.bytesLess a b = false) (h2 : Op.bytesLess b a = false) : a = b:=by
  have:=less_tri b a
  rw [h1,h2] at this
  simpa using this
abbrev EV:={ e : Ent // e.2.length = 32 }
instance : Inhabited EV:=⟨⟨([],zeroId),by decide⟩⟩
def evC (x : EV) : List Value:=entF x.1
theorem evC_length (x : EV) : (evC x).length = 33:=entC_length x.2
theorem evC_one (x : EV) : ∀ u ∈ evC x,u.oneCell' = true:=entC_one _ _
def cfE (x y : EV) : Int:=Lib.compareBytes x.1.1 y.1.1
theorem lt_cfE (x y : EV) : ltOf cfE x y = Op.bytesLess x.1.1 y.1.1:=cmp_less _ _
theorem swoE : SWO (ltOf cfE) where
  irrefl x:=by rw [lt_cfE,less_irr]
  trans x y z h1 h2:=by rw [lt_cfE] at *; exact less_trans _ _ _ h1 h2
  ntrans x y z h1 h2:=by rw [lt_cfE] at *; exact less_ntrans _ _ _ h1 h2
theorem cmpStr_run (a b : ByteArray) (W : World) : (callFunc 138 #[.string a,.string b]).run Tryz.prog W = .ok (.value (.int .i64 (Lib.compareBytes a.data.toList b.data.toList))) W:=by
  rw [run_callFunc_standIn (e:=Extern.BytealgCompare.compare) Tryz.func138 (by kernel_rfl) (by kernel_rfl) (by kernel_rfl) (by kernel_rfl)]
  simp [Lib.run_compareString,Result.andThen]
theorem closureE_any (cx cy : Array Value) (a b : ByteArray) (W : World) (ha : cx[0]? = some (.string a)) (hb : cy[0]? = some (.string b)) :
    Calls Tryz.prog 66 #[.agg cx,.agg cy] W fun e w' => e = .returned (.int .i64 (Lib.compareBytes a.data.toList b.data.toList)) ∧ ∃ q os',w' = grow (W.drewN q) os':=by
  go_enter Tryz.func66,Tryz.ntmps66
  have h0 : (((W.alloc (.cells cx 122)).alloc (.cells cy 122))).heap[W.heap.size]? = some (.cells cx 122 (0,0)):=by
    rw [heap_alloc_old _ _ (by simp)]; exact heap_alloc_new W _
  have h1 : (((W.alloc (.cells cx 122)).alloc (.cells cy 122))).heap[W.heap.size + 1]? = some (.cells cy 122 (0,0)):=by
    have:=heap_alloc_new (W.alloc (.cells cx 122)) (.cells cy 122)
    rwa [World.size_alloc] at this
  have c0 : (((W.alloc (.cells cx 122)).alloc (.cells cy 122))).cell? ⟨W.heap.size,0,none⟩ = some (.string a):=by
    simp only [World.cell?,h0]; exact ha
  have c1 : (((W.alloc (.cells cx 122)).alloc (.cells cy 122))).cell? ⟨W.heap.size + 1,0,none⟩ = some (.string b):=by
    simp only [World.cell?,h1]; exact hb
  clear h0 h1
  go_wp2
  rw [cmpStr_run,Oper.upon_value]
  go_wp2
  go_ret
  exact ⟨rfl,0,_,by rw [alloc_eq_grow,alloc_eq_grow,grow_grow]; rfl⟩
end Go.Proofs.YthkdkmaacjpneaaGreatDoor
namespace Go.Proofs.YthkdkmaacjpneaaGreatDoor
open Go.RowKit Go.Shelf Go.Lib Go.Sort
set_option maxRecDepth 8000
theorem cmpLaysE (blk off size : Nat) (w : World) : CmpLays Tryz.prog 66 #[] evC 33 cfE blk off size w:=fun m os dk hs x y =>
  closureE_any (evC x).toArray (evC y).toArray (strB x.1.1) (strB y.1.1) _ rfl rfl
theorem sortE_spec (v : Value) (xs : List EV) (hlen : xs.length < 4611686018427387904) (F : HP) : CallsS Tryz.prog 65 #[v,.func (.func 66) #[] #[]] F [rowP 122 33 v xs.length (recC evC xs)]
    (fun r Ps => r = .tuple #[] ∧ ∃ ys,ys.Perm xs ∧ ys.Pairwise (fun a b => Op.bytesLess b.1.1 a.1.1 = false) ∧ Ps = [rowP 122 33 v ys.length (recC evC ys)]) :=
  (sortFunc_S laysSrtE (k:=33) (e:=122) (enc:=evC) Tryz.isAgg122 Tryz.sizeOf122 evC_length evC_one cfE swoE 66 #[] (enters_of Tryz.func66 (by kernel_rfl) rfl) cmpLaysE v xs hlen F).imp fun r Ps ⟨h1,ys,h2,h3,h4⟩ =>
    ⟨h1,ys,h2,h3.imp fun h => by rw [← lt_cfE]; exact h,h4⟩
theorem ltK_less : ∀ a b : List UInt8,ltK a b = Op.bytesLess a b
  | [],[] => rfl
  | [],_ :: _ => rfl
  | _ :: _,[] => rfl
  | x :: a,y :: b => by
    simp only [ltK,Op.bytesLess,ltK_less a b]
    by_cases h : x = y <;> simp [h]
theorem compare_any (va vb : Value) (A B : ByteArray) (W : World) (hA : (Extern.Bytes.bytesOf va).run Tryz.prog W = .ok A W) (hB : (Extern.Bytes.bytesOf vb).run Tryz.prog W = .ok B W) : Calls Tryz.prog 41 #[va,vb] W fun e w' => e = .returned (.int .i64 (Extern.BytealgCompare.cmp A B)) ∧ w' = W:=by
  have hrun : (callFunc 71 #[va,vb]).run Tryz.prog W = .ok (.value (.int .i64 (Extern.BytealgCompare.cmp A B))) W:=by
    rw [run_callFunc_standIn (e:=Extern.BytealgCompare.compare) Tryz.func71 (by kernel_rfl) (by kernel_rfl) (by kernel_rfl) (by kernel_rfl)]
    rw [show Extern.BytealgCompare.compare #[va,vb] = (do pure (goInt (Extern.BytealgCompare.cmp (← Extern.Bytes.bytesOf va) (← Extern.Bytes.bytesOf vb)))) from rfl]
    simp [hA,hB,Result.andThen,goInt]
  go_enter Tryz.func41,Tryz.ntmps41
  go_wp2
  go_ret
  exact ⟨rfl,rfl⟩
theorem closure_any (cx cy : Array Value) (z : Int) (W : World) (hc : ∀ W' : World,W'.heap[W.heap.size]? = some (.cells cx 59 (0,0)) → W'.heap[W.heap.size + 1]? = some (.cells cy 59 (0,0)) →
      Calls Tryz.prog 41 #[.slice (some ⟨W.heap.size,0,none⟩) 32 32,.slice (some ⟨W.heap.size + 1,0,none⟩) 32 32] W' fun e w' => e = .returned (.int .i64 z) ∧ w' = W') :
    Calls Tryz.prog 40 #[.agg cx,.agg cy] W fun e w' => e = .returned (.int .i64 z) ∧ ∃ q os',w' = grow (W.drewN q) os':=by
  go_enter Tryz.func40,Tryz.ntmps40
  have h0 : (((W.alloc (.cells cx 59)).alloc (.cells cy 59))).heap[W.heap.size]? = some (.cells cx 59 (0,0)):=by
    rw [heap_alloc_old _ _ (by simp)]; exact heap_alloc_new W _
  have h1 : (((W.alloc (.cells cx 59)).alloc (.cells cy 59))).heap[W.heap.size + 1]? = some (.cells cy 59 (0,0)):=by
    have:=heap_alloc_new (W.alloc (.cells cx 59)) (.cells cy 59)
    rwa [World.size_alloc] at this
  have hcq : ∀ n,Calls Tryz.prog 41 #[.slice (some ⟨W.heap.size,0,none⟩) 32 32,.slice (some ⟨W.heap.size + 1,0,none⟩) 32 32] ((((W.alloc (.cells cx 59)).alloc (.cells cy 59))).drewN n) fun e w'' => e = .returned (.int .i64 z) ∧ w'' = ((((W.alloc (.cells cx 59)).alloc (.cells cy 59))).drewN n):=fun n => hc _ h0 h1
  clear hc h0 h1
  go_wp2_with (fail)
  go_quiet (first | (go_at_call 41; exact Calls.quiet_of_same (hcq _)))

  go_wp2
  go_ret
  exact ⟨rfl,nq,_,by rw [alloc_eq_grow,alloc_eq_grow,grow_grow]; rfl⟩
def cfB (x y : BV) : Int:=Extern.BytealgCompare.cmp ⟨x.key.toArray⟩ ⟨y.key.toArray⟩
theorem lt_cfB (x y : BV) : ltOf cfB x y = ltK x.key y.key:=cmp_lt _ _ (x.len.trans y.len.symm)
theorem swoB : SWO (ltOf cfB) where
  irrefl x:=by rw [lt_cfB,ltK_irrefl]
  trans x y z h1 h2:=by rw [lt_cfB] at *; exact ltK_trans _ _ _ h1 h2
  ntrans x y z h1 h2:=by rw [lt_cfB] at *; exact ltK_ntrans _ _ _ (x.len.trans y.len.symm) (y.len.trans z.len.symm) h1 h2
theorem key_bytes (x : BV) (b : Nat) (e : TypeId) (W : World) (h : W.heap[b]? = some (.cells (bvC x).toArray e (0,0))) : (Extern.Bytes.bytesOf (.slice (some ⟨b,0,none⟩) 32 32)).run Tryz.prog W = .ok ⟨x.key.toArray⟩ W:=by
  have:=run_loadL (P:=Tryz.prog) W x.key ⟨b,0,none⟩ .empty (fun j u hj => by
    have hjl : j < x.key.length:=(List.getElem?_eq_some_iff.1 hj).1
    rw [addr_add0]
    simp only [World.cell?,h,Option.isSome_none,Bool.false_eq_true,if_false]
    rw [List.getElem?_toArray]
    unfold bvC bkC
    rw [List.getElem?_append_left (by rw [bs_length]; exact hjl),bs_get,hj]
    rfl)
  rw [x.len] at this
  unfold Extern.Bytes.bytesOf
  rw [this]
  congr 1
  apply ByteArray.ext
  show #[] ++ x.key.toArray = _
  simp
theorem cmpLaysB (blk off size : Nat) (w : World) : CmpLays Tryz.prog 40 #[] bvC 35 cfB blk off size w:=fun m os dk hs x y =>
  closure_any (bvC x).toArray (bvC y).toArray (cfB x y) _ fun W' h0 h1 => compare_any _ _ _ _ W' (key_bytes x _ _ W' h0) (key_bytes y _ _ W' h1)
theorem sortB_spec (v : Value) (xs : List BV) (hlen : xs.length < 4611686018427387904) (F : HP) : CallsS Tryz.prog 39 #[v,.func (.func 40) #[] #[]] F [rowP 59 35 v xs.length (recC bvC xs)]
    (fun r Ps => r = .tuple #[] ∧ ∃ ys,ys.Perm xs ∧ ys.Pairwise (fun a b => ltK b.key a.key = false) ∧ Ps = [rowP 59 35 v ys.length (recC bvC ys)]) :=
  (sortFunc_S laysSrtB (k:=35) (e:=59) (enc:=bvC) Tryz.isAgg59 Tryz.sizeOf59 bvC_length bvC_one cfB swoB 40 #[] (enters_of Tryz.func40 (by kernel_rfl) rfl) cmpLaysB v xs hlen F).imp fun r Ps ⟨h1,ys,h2,h3,h4⟩ =>
    ⟨h1,ys,h2,h3.imp fun h => by rw [← lt_cfB]; exact h,h4⟩
open Go.RowKit
theorem pick_map {α κ : Type} {f : α → κ × Value} {l2 : List α} {left left' : List (κ × Value)} {p : κ × Value} (h1 : left.Perm (l2.map f)) (h2 : left.Perm (p :: left')) : ∃ b l3,p = f b ∧ l2.Perm (b :: l3) ∧ left'.Perm (l3.map f):=by
  have hm : p ∈ l2.map f:=(h2.symm.trans h1).mem_iff.1 (by simp)
  obtain ⟨b,hb,rfl⟩:=List.mem_map.1 hm
  obtain ⟨a,c,rfl⟩:=List.append_of_mem hb
  refine ⟨b,a ++ c,rfl,List.perm_middle,?_⟩
  have h3 : ((a ++ b :: c).map f).Perm (f b :: (a ++ c).map f):=List.Perm.map _ List.perm_middle
  exact (h2.symm.trans (h1.trans h3)).cons_inv
theorem nil_map {α κ : Type} {f : α → κ × Value} {l2 : List α} (h : ([] : List (κ × Value)).Perm (l2.map f)) : l2 = []:=by
  have:=h.length_eq
  simp only [List.length_nil,List.length_map] at this
  exact List.length_eq_zero_iff.1 this.symm
def insN (e : Ent) : List Ent → List Ent
  | [] => [e]
  | x :: l => if Op.bytesLess x.1 e.1 = true then x :: insN e l else e :: x :: l
def sortN : List Ent → List Ent
  | [] => []
  | e :: l => insN e (sortN l)
theorem insN_perm (e : Ent) : ∀ l : List Ent,(insN e l).Perm (e :: l)
  | [] => List.Perm.refl _
  | x :: l => by
    rw [insN]
    split
    · exact ((insN_perm e l).cons x).trans (List.Perm.swap _ _ _)
    · exact List.Perm.refl _
theorem sortN_perm : ∀ l : List Ent,(sortN l).Perm l
  | [] => List.Perm.refl _
  | e :: l => (insN_perm e (sortN l)).trans ((sortN_perm l).cons e)
abbrev SortN (l : List Ent) : Prop:=l.Pairwise fun a b => Op.bytesLess a.1 b.1 = true
theorem less_of_not {a b : List UInt8} (h : ¬ Op.bytesLess a b = true) (hne : a ≠ b) : Op.bytesLess b a = true:=by
  cases h2 : Op.bytesLess b a with
  | true => rfl
  | false => exact absurd (less_anti (by simpa using h) h2) hne
theorem insN_sort {e : Ent} : ∀ {l : List Ent},SortN l → (∀ x ∈ l,x.1 ≠ e.1) → SortN (insN e l)
  | [],_,_ => List.pairwise_singleton _ _
  | x :: l,h,hk => by
    have h1:=(List.pairwise_cons.1 h).1
    rw [insN]
    split
    · rename_i hl
      refine List.pairwise_cons.2 ⟨fun y hy => ?_,insN_sort (List.pairwise_cons.1 h).2 fun y hy => hk y (by simp [hy])⟩
      rcases List.mem_cons.1 ((insN_perm e l).mem_iff.1 hy) with rfl | hy
      · exact hl
      · exact h1 y hy
    · rename_i hl
      have hex : Op.bytesLess e.1 x.1 = true:=less_of_not hl (hk x (by simp))
      refine List.pairwise_cons.2 ⟨fun y hy => ?_,h⟩
      rcases List.mem_cons.1 hy with rfl | hy
      · exact hex
      · exact less_trans _ _ _ hex (h1 y hy)
theorem sortN_sort : ∀ {l : List Ent},(l.map (·.1)).Nodup → SortN (sortN l)
  | [],_ => List.Pairwise.nil
  | e :: l,h => by
    rw [List.map_cons,List.nodup_cons] at h
    refine insN_sort (sortN_sort h.2) fun x hx he => h.1 ?_
    rw [← he]
    exact List.mem_map_of_mem ((sortN_perm l).mem_iff.1 hx)
theorem sortN_uniq : ∀ {a b : List Ent},SortN a → SortN b → a.Perm b → a = b
  | [],b,_,_,h => (List.Perm.nil_eq h)
  | x :: a,[],_,_,h => absurd h.length_eq (by simp)
  | x :: a,y :: b,ha,hb,h => by
    have hxy : x = y:=by
      rcases List.mem_cons.1 (h.mem_iff.1 (List.mem_cons_self)) with h1 | h1
      · exact h1
      · rcases List.mem_cons.1 (h.symm.mem_iff.1 (List.mem_cons_self)) with h2 | h2
        · exact h2.symm
        · have h3:=less_trans _ _ _ ((List.pairwise_cons.1 ha).1 _ h2) ((List.pairwise_cons.1 hb).1 _ h1)
          rw [less_irr] at h3
          cases h3
    subst hxy
    rw [sortN_uniq (List.pairwise_cons.1 ha).2 (List.pairwise_cons.1 hb).2 h.cons_inv]
theorem nodup_ne {α : Type} {l : List α} (h : l.Nodup) : l.Pairwise (· ≠ ·):=h
theorem sorted_is {ys : List Ent} {xs : List Ent} (hp : ys.Perm xs) (hs : ys.Pairwise fun a b => Op.bytesLess b.1 a.1 = false) (hn : (xs.map (·.1)).Nodup) : ys = sortN xs:=by
  have hn2 : (ys.map (·.1)).Nodup:=((hp.map (·.1)).nodup_iff).2 hn
  refine sortN_uniq ?_ (sortN_sort hn) (hp.trans (sortN_perm xs).symm)
  have h2 : ys.Pairwise fun a b => a.1 ≠ b.1:=by
    have:=nodup_ne hn2
    rwa [List.pairwise_map] at this
  exact (hs.and h2).imp fun h => less_of_not (by rw [h.1]; simp) (Ne.symm h.2)
abbrev F3:=List UInt8 × Value × List UInt8
def fileE (f : F3) : EV:=⟨(f.1,idF 1 f.2.2),sha_length _⟩
def fileEs (fs : List F3) : List Ent:=fs.map fun f => (f.1,idF 1 f.2.2)
def fileBs (fs : List F3) : List (List UInt8):=(fs.map fun f => blocksF 1 f.2.2).flatten
mutual
def idT : HT → List UInt8
  | .mk _ _ _ dirs files => idF 2 (dirR (sortN (fileEs files ++ entsD dirs)))
def entsD : List (List UInt8 × HT) → List Ent
  | [] => []
  | d :: ds => (d.1,idT d.2) :: entsD ds
end
mutual
def blocksT : HT → List (List UInt8)
  | .mk _ _ _ dirs files => fileBs files ++ blocksDs dirs ++ blocksF 2 (dirR (sortN (fileEs files ++ entsD dirs)))
def blocksDs : List (List UInt8 × HT) → List (List UInt8)
  | [] => []
  | d :: ds => blocksT d.2 ++ blocksDs ds
end
theorem idT_length : ∀ T : HT,(idT T).length = 32
  | .mk _ _ _ _ _ => by rw [idT]; exact sha_length _
def dirEV (d : List UInt8 × HT) : EV:=⟨(d.1,idT d.2),idT_length d.2⟩
theorem entsD_map : ∀ ds : List (List UInt8 × HT),entsD ds = ds.map fun d => (d.1,idT d.2)
  | [] => by rw [entsD]; rfl
  | d :: ds => by rw [entsD,entsD_map ds]; rfl
theorem blocksDs_map : ∀ ds : List (List UInt8 × HT),blocksDs ds = (ds.map fun d => blocksT d.2).flatten
  | [] => by rw [blocksDs]; rfl
  | d :: ds => by rw [blocksDs,blocksDs_map ds]; rfl
theorem fileBs_app (a : List F3) (f : F3) : fileBs (a ++ [f]) = fileBs a ++ blocksF 1 f.2.2:=by simp [fileBs]
theorem blocksDs_app (a : List (List UInt8 × HT)) (d : List UInt8 × HT) : blocksDs (a ++ [d]) = blocksDs a ++ blocksT d.2:=by simp [blocksDs_map]
theorem fileBs_perm {a b : List F3} (h : a.Perm b) : (fileBs a).Perm (fileBs b):=(h.map _).flatten
theorem blocksDs_perm {a b : List (List UInt8 × HT)} (h : a.Perm b) : (blocksDs a).Perm (blocksDs b):=by rw [blocksDs_map,blocksDs_map]; exact (h.map _).flatten
theorem ents_done {g gd gf m : Nat} {R : Value → List UInt8 → Prop} {dirs : List (List UInt8 × HT)} {files : List F3} (hf : Fit m R (.mk g gd gf dirs files)) {sf : List F3} {sd : List (List UInt8 × HT)} (h1 : sf.Perm files) (h2 : sd.Perm dirs) {ys : List EV} (hp : ys.Perm (sf.map fileE ++ sd.map dirEV)) (hs : ys.Pairwise fun a b => Op.bytesLess b.1.1 a.1.1 = false) :
    ys.map (·.1) = sortN (fileEs files ++ entsD dirs):=by
  rw [Fit_mk] at hf
  have hp2 : (ys.map (·.1)).Perm (fileEs files ++ entsD dirs):=by
    refine (hp.map (·.1)).trans ?_
    rw [List.map_append,List.map_map,List.map_map,entsD_map]
    exact (h1.map _).append (h2.map _)
  refine sorted_is hp2 (by rw [List.pairwise_map]; exact hs) ?_
  rw [List.map_append,entsD_map,fileEs,List.map_map,List.map_map]
  exact hf.2.2.2
theorem dirR_len5 {es : List Ent} (hE : Ents es) : (dirR es).length ≤ 100000:=by
  unfold dirR
  split
  · rename_i h
    obtain ⟨h1,h2⟩:=dirE_zero h
    have:=dirTo_len hE h1 es.length
    rw [dirTo_all] at this
    have h3 : (48 + 33) * es.length ≤ 81 * 20:=Nat.mul_le_mul_left 81 h2
    omega
  · simp
theorem recC_EV (ys : List EV) : recC evC ys = recC entF (ys.map (·.1)):=by unfold recC evC; rw [List.map_map]; rfl
theorem ents_EV (ys : List EV) : Ents (ys.map (·.1)):=fun e he => by
  obtain ⟨y,_,rfl⟩:=List.mem_map.1 he
  exact y.2
open Go.RowKit
set_option maxRecDepth 8000
def wrongI (p d : List UInt8) : Nat:=if (splitN p).2 ≠ 0 then (splitN p).2 else if (splitN p).1.length = 0 then 10 else if 1000 < d.length then 5 else 0
theorem ent_build0 {nm id : List UInt8} (h : id.length = 32) : over ((entC [] zeroId).set 0 (sV nm)) 1 (bs id) = entC nm id:=by
  have hz : (bs zeroId).length = 32:=by rw [bs_length,zeroId_length]
  have:=over_mid [sV nm] (bs zeroId) (bs id) [] (by rw [hz,bs_length,h])
  simpa [entC] using this
theorem row_ev {v : Value} {xs : List F3} {b : F3} {h : Hlt} (hp : rowP 122 33 v (xs.length + 1) (recC evC (xs.map fileE) ++ [evC (fileE b)].flatten) h) : rowP 122 33 v (xs ++ [b]).length (recC evC ((xs ++ [b]).map fileE)) h:=by
  rw [List.length_append,List.map_append,recC_append,List.map_cons,List.map_nil,recC_one]
  simpa using hp
theorem row_ed {v : Value} {xs : List F3} {ds : List (List UInt8 × HT)} {b : List UInt8 × HT} {h : Hlt} (hp : rowP 122 33 v (xs.length + ds.length + 1) (recC evC (xs.map fileE ++ ds.map dirEV) ++ [evC (dirEV b)].flatten) h) : rowP 122 33 v (xs.length + (ds ++ [b]).length) (recC evC (xs.map fileE ++ (ds ++ [b]).map dirEV)) h:=by
  rw [List.length_append,List.map_append,← List.append_assoc,recC_append (a:=_ ++ _),List.map_cons,List.map_nil,recC_one]
  simpa [Nat.add_assoc] using hp
theorem ents_short {g gd gf m : Nat} {R : Value → List UInt8 → Prop} {dirs : List (List UInt8 × HT)} {files : List F3} (hf : Fit m R (.mk g gd gf dirs files)) : ∀ e ∈ fileEs files ++ entsD dirs,e.1.length ≤ 1000000:=fun e he => by
  rw [Fit_mk,FitL_iff] at hf
  rw [entsD_map] at he
  rcases List.mem_append.1 he with he | he
  · obtain ⟨f,hf2,rfl⟩:=List.mem_map.1 he; exact (hf.2.1 f hf2).1
  · obtain ⟨d,hd,rfl⟩:=List.mem_map.1 he; exact (hf.2.2.1 d hd).1
theorem wrongI_spec (p d : List UInt8) (v : Value) (hp : p.length ≤ 1000000000) (hd : d.length ≤ 100000000000) (F : HP) (hF : ∀ h,F h → rdB v d h) (hT : ∀ h,F h → tabsP h) : CallsS Tryz.prog 34 #[.agg #[sV p,v]] F [] (fun r Ps => r = .int .i64 (wrongI p d : Int) ∧ Ps = []):=by
 refine callsS_enter Tryz.func34 rfl Tryz.ntmps34 (by simp) (fun E => ?_)
 refine Q9 (R9 (Lc9 rfl rfl (by decide) (OpT_box (r:=101) rfl rfl rfl (fun g101 => (G9 rfl rfl (N9 (X9 (Q9 (R9 (L9 rfl (F9 0 rfl rfl) (L9 rfl (Pb9 (r:=101) rfl Tryz.isAgg9 rfl rfl rfl) (Lc9 rfl rfl (by decide) (Oc9 200 [0,101] [] rfl Tryz.call36 rfl rfl rfl (by decide) (by decide) (split_nspec p (by omega) _ (ts9 0 rfl hT)) (fun v8 Ps8 hR8 => ?_))))))))))))))
 obtain ⟨vs8,rfl,rfl⟩:=hR8
 refine (M9 rfl rfl (L9 rfl (Pe9 rfl rfl rfl) (L9 rfl (Pe9 rfl rfl rfl) (G9 rfl rfl (G9 rfl rfl (N9 (X9 ?_)))))))
 refine Q9 ?_
 refine W_block ?_
 refine Q9 (R9 (M9 rfl rfl (L9 rfl (Pn9 rfl rfl rfl (run_neq _ _ _ _ _ _)) (G9 rfl rfl (N9 (X9 ?_))))))
 refine C9 rfl (fun hc11 => ?_) (fun hc11 => ?_)
 ·
  have hw : wrongI p d = (splitN p).2:=by unfold wrongI; rw [if_pos (by simpa using hc11)]
  refine Q9 (R9 (M9 rfl rfl (G9 rfl rfl (N9 (X9 ?_)))))
  refine W_ret (X_block_ret (X_then_ret ?_))
  exact Xq9 [] (Ps:=[]) (res1 Tryz.results34 rfl) rfl (by decide) ⟨by rw [hw] <;> rfl,rfl⟩
 ·
  have h0 : (splitN p).2 = 0:=by simpa using hc11
  refine Q9 (R9 (M9 rfl rfl (L9 rfl (Pl9 (r:=200) rfl Tryz.runUnderlying63 rfl rfl rowS_rd) (L9 rfl (Pn9 rfl rfl rfl (run_eql _ _ _ _ _ _)) (G9 rfl rfl (N9 (X9 ?_)))))))
  refine C9 rfl (fun hc15 => ?_) (fun hc15 => ?_)
  ·
   have hw : wrongI p d = 10:=by unfold wrongI; rw [if_neg (fun h => h h0),if_pos (by simpa using hc15)]
   refine Q9 (R9 (G9 rfl rfl (N9 (X9 ?_))))
   refine W_ret (X_block_ret (X_then_ret ?_))
   exact Xq9 [] (Ps:=[]) (res1 Tryz.results34 rfl) rfl (by decide) ⟨by rw [hw] <;> rfl,rfl⟩
  ·
   have h1 : ¬ (splitN p).1.length = 0:=by simpa using hc15
   refine Q9 (R9 (L9 rfl (F9 1 rfl rfl) (L9 rfl (Pb9 (r:=101) rfl Tryz.isAgg36 rfl rfl rfl) (L9 rfl (Pl9 (r:=0) rfl Tryz.runUnderlying36 rfl rfl hF) (L9 rfl (Pn9 rfl rfl rfl (run_gtr _ _ _ _ _ _)) (G9 rfl rfl (N9 (X9 ?_))))))))
   refine C9 rfl (fun hc19 => ?_) (fun hc19 => ?_)
   ·
    have hw : wrongI p d = 5:=by unfold wrongI; rw [if_neg (fun h => h h0),if_neg h1,if_pos (by have:=of_decide_eq_true hc19; omega)]
    refine Q9 (R9 (G9 rfl rfl (N9 (X9 ?_))))
    refine W_ret (X_block_ret (X_then_ret ?_))
    exact Xq9 [] (Ps:=[]) (res1 Tryz.results34 rfl) rfl (by decide) ⟨by rw [hw] <;> rfl,rfl⟩
   ·
    have hw : wrongI p d = 0:=by unfold wrongI; rw [if_neg (fun h => h h0),if_neg h1,if_neg (by have:=of_decide_eq_false hc19; omega)]
    refine K9 (X_block (X9 ?_))
    refine Q9 (R9 (G9 rfl rfl (N9 (X9 ?_))))
    refine W_ret ?_
    exact Xq9 [] (Ps:=[]) (res1 Tryz.results34 rfl) rfl (by decide) ⟨by rw [hw] <;> rfl,rfl⟩
theorem folder_walk (g m : Nat) (R : Value → List UInt8 → Prop) (hm : m ≤ 1000) (gT gd gf : Nat) (dirs : List (List UInt8 × HT)) (files : List F3) (hF0 : Fit m R (.mk gT gd gf dirs files)) (ih : ∀ d ∈ dirs,∀ (hist : List (List UInt8)) (F : HP),(∀ v x,R v x → ∀ h,F h → rdB v x h) → (∀ h,F h → tabsP h) → CallsS Tryz.prog 38 #[.pointer (some ⟨g,0,none⟩),.pointer (some ⟨d.2.g,0,none⟩)] F [bldP g hist,htP d.2] (fun r Ps => r = idV (idT d.2) ∧ ∃ hs : List (List UInt8),hs.Perm (blocksT d.2) ∧ Ps = [bldP g (hist ++ hs),htP d.2])) (hist : List (List UInt8)) (F : HP) (hR : ∀ v x,R v x → ∀ h,F h → rdB v x h) (hT : ∀ h,F h → tabsP h) : CallsS Tryz.prog 38 #[.pointer (some ⟨g,0,none⟩),.pointer (some ⟨gT,0,none⟩)] F [bldP g hist,htP (.mk gT gd gf dirs files)] (fun r Ps => r = idV (idT (.mk gT gd gf dirs files)) ∧ ∃ hs : List (List UInt8),hs.Perm (blocksT (.mk gT gd gf dirs files)) ∧ Ps = [bldP g (hist ++ hs),htP (.mk gT gd gf dirs files)]):=by
 have hfit:=Fit_mk.1 hF0
 have hfl:=hfit.1
 refine callsS_enter Tryz.func38 rfl Tryz.ntmps38 (by simp) (fun E => ?_)
 refine Q9 (R9 (Lc9 rfl rfl (by decide) (OpT_alloc (r:=101) (cs:=(bs zeroId)) rfl (zero_run (by kernel_rfl : (Tryz.prog.info? 29).bind (·.zero) = some (.agg (bs zeroId).toArray))) rfl (fun g101 => (N9 (X9 (Q9 ?_)))))))
 refine W_nilRow 499 122 33 ?_
 refine R9 (G9 rfl rfl (N9 (X9 (Q9 (Q9 ?_)))))
 refine W_openHT 2 600 rfl ?_
 refine R9 (M9 rfl rfl (L9 rfl (Pu_nilCheck rfl rfl) (L9 rfl (F9 1 rfl rfl) (L9 rfl (Pb9 (r:=600) rfl Tryz.isAgg133 rfl rfl rfl) (Lc9 rfl rfl (by decide) (OpT_rangeQ (r:=602) rfl Tryz.underlying133 rfl rfl (fun it1 => (N9 (X9 ?_)))))))))
 refine W_block ?_
 refine Wt9 (P':=bldP g (hist ++ fileBs [])) 1 rfl (fun h hp => by rw [show fileBs [] = [] from rfl,List.append_nil]; exact hp) ?_
 refine W_loop (α:=Value × List F3 × List F3 × List (List UInt8 × Value)) (fun x => [(0,.pointer (some ⟨g,0,none⟩)),(1,.pointer (some ⟨gT,0,none⟩)),(4,.pointer (some ⟨g101,0,none⟩)),(5,x.1),(16,.pointer (some ⟨it1,0,none⟩))]) (fun x => [(0,F),(1,bldP g (hist ++ fileBs x.2.1)),(499,rowP 122 33 x.1 x.2.1.length (recC evC (x.2.1.map fileE))),(600,blk gT 135 [.map (some gd),.map (some gf)]),(601,mapS gd (dirM dirs) none),(602,mapS gf (filM files) (some (it1,x.2.2.2,none))),(603,starL (htsP dirs)),(101,blk g101 29 (bs zeroId))]) (fun x => (x.2.1 ++ x.2.2.1).Perm files ∧ x.2.2.2.Perm (filM x.2.2.1)) (fun x => x.2.2.1.length) ((.slice none 0 0,[],files,filM files)) ⟨List.Perm.refl _,List.Perm.refl _⟩ (a9 rfl) (a9 rfl) (fun x hx => ?_)
 obtain ⟨hx1,hx2⟩:=hx
 have hxl:=hx1.length_eq
 rw [List.length_append] at hxl
 refine Q9 ?_
 refine R9 (Lc9 rfl rfl (by decide) (OpT_nextQ (r:=602) keyS rfl rfl rfl (fun hnil => ?_) (fun p left hpe hpm => ?_)))
 ·
  rw [hnil] at hx2
  have hl2:=nil_map hx2
  rw [hl2,List.append_nil] at hx1
  refine (L9 rfl (Pe9 rfl rfl rfl) (N9 (X9 ?_)))
  refine Q9 ?_
  refine W_false rfl (rfl) ?_
  refine W_exit (X_then_exit (X_then_exit (X_block_exit (X9 ?_))))
  refine Q9 (Q9 ?_)
  refine Wt9 602 rfl (fun h hp => mapQ_none hp) ?_
  refine R9 (M9 rfl rfl (L9 rfl (Pu_nilCheck rfl rfl) (L9 rfl (F9 0 rfl rfl) (L9 rfl (Pb9 (r:=600) rfl Tryz.isAgg132 rfl rfl rfl) (Lc9 rfl rfl (by decide) (OpT_rangeQ (r:=601) rfl Tryz.underlying132 rfl rfl (fun it2 => (N9 (X9 ?_)))))))))
  refine W_block ?_
  refine Wt9 (P':=bldP g (hist ++ fileBs x.2.1 ++ [])) 1 rfl (fun h hp => by rw [List.append_nil]; exact hp) ?_
  refine Wt9 (P':=rowP 122 33 x.1 (x.2.1.length + ([] : List (List UInt8 × HT)).length) (recC evC (x.2.1.map fileE ++ ([] : List (List UInt8 × HT)).map dirEV))) 499 rfl (fun h hp => by rw [List.map_nil,List.append_nil]; exact hp) ?_
  refine W_loop (α:=Value × List (List UInt8 × HT) × List (List UInt8 × HT) × List (List UInt8 × Value) × List (List UInt8)) (fun y => [(0,.pointer (some ⟨g,0,none⟩)),(4,.pointer (some ⟨g101,0,none⟩)),(5,y.1),(34,.pointer (some ⟨it2,0,none⟩))]) (fun y => [(0,F),(1,bldP g (hist ++ fileBs x.2.1 ++ y.2.2.2.2)),(499,rowP 122 33 y.1 (x.2.1.length + y.2.1.length) (recC evC (x.2.1.map fileE ++ y.2.1.map dirEV))),(600,blk gT 135 [.map (some gd),.map (some gf)]),(601,mapS gd (dirM dirs) (some (it2,y.2.2.2.1,none))),(602,mapS gf (filM files) none),(603,starL (htsP dirs)),(101,blk g101 29 (bs zeroId))]) (fun y => (y.2.1 ++ y.2.2.1).Perm dirs ∧ y.2.2.2.1.Perm (dirM y.2.2.1) ∧ y.2.2.2.2.Perm (blocksDs y.2.1)) (fun y => y.2.2.1.length) ((x.1,[],dirs,dirM dirs,[])) ⟨List.Perm.refl _,List.Perm.refl _,by rw [blocksDs]⟩ (a9 rfl) (a9 rfl) (fun y hy => ?_)
  obtain ⟨hy1,hy2,hy3⟩:=hy
  have hyl:=hy1.length_eq
  rw [List.length_append] at hyl
  refine Q9 ?_
  refine R9 (Lc9 rfl rfl (by decide) (OpT_nextQ (r:=601) keyS rfl rfl rfl (fun hnil => ?_) (fun p left hpe hpm => ?_)))
  ·
   rw [hnil] at hy2
   have hl2:=nil_map hy2
   rw [hl2,List.append_nil] at hy1
   refine (L9 rfl (Pe9 rfl rfl rfl) (N9 (X9 ?_)))
   refine Q9 ?_
   refine W_false rfl (rfl) ?_
   refine W_exit (X_then_exit (X_then_exit (X_block_exit (X9 ?_))))
   refine Q9 ?_
   refine Wt9 601 rfl (fun h hp => mapQ_none hp) ?_
   refine Wt9 (P':=rowP 122 33 y.1 (x.2.1.map fileE ++ y.2.1.map dirEV).length (recC evC (x.2.1.map fileE ++ y.2.1.map dirEV))) 499 rfl (fun h hp => by rw [List.length_append,List.length_map,List.length_map]; exact hp) ?_
   refine R9 (M9 rfl rfl (Lc9 rfl rfl (by decide) (Oc9 700 [0,1,101,600,601,602,603] [499] rfl Tryz.call65 rfl rfl rfl (by decide) (by decide) (sortE_spec y.1 (x.2.1.map fileE ++ y.2.1.map dirEV) (by rw [List.length_append,List.length_map,List.length_map]; omega) _) (fun v49 Ps49 hR49 => ?_))))
   obtain ⟨rfl,ys,hys,hsrt,rfl⟩:=hR49
   skip
   refine (N9 (X9 ?_))
   refine Q9 ?_
   have hfin:=ents_done (Fit_mk.2 hfit : Fit m R (.mk gT gd gf dirs files)) hx1 hy1 hys hsrt
   have hyl2 : ys.length ≤ 1000000:=by have:=hys.length_eq; rw [List.length_append,List.length_map,List.length_map] at this; omega
   have hel : (sortN (fileEs files ++ entsD dirs)).length = ys.length:=by rw [← hfin,List.length_map]
   refine Wt9 (P':=rowE 122 y.1 (sortN (fileEs files ++ entsD dirs))) 700 rfl (fun h hp => by rw [← hfin]; unfold rowE rowR; rw [← recC_EV,List.length_map]; exact hp) ?_
   have hE : Ents (sortN (fileEs files ++ entsD dirs)):=by rw [← hfin]; exact ents_EV ys
   have hnml : ∀ e ∈ sortN (fileEs files ++ entsD dirs),e.1.length ≤ 140737488355328:=fun e he => by have:=ents_short (Fit_mk.2 hfit : Fit m R (.mk gT gd gf dirs files)) e ((sortN_perm _).mem_iff.1 he); omega
   refine R9 (M9 rfl rfl (Lc9 rfl rfl (by decide) (Oc9 800 [0,1,101,600,601,602,603,700] [] rfl Tryz.call68 rfl rfl rfl (by decide) (by decide) (dir_spec y.1 (sortN (fileEs files ++ entsD dirs)) hE (by omega) hnml _ (rs9 7 rfl rowR_rd) (ts9 0 rfl hT)) (fun v52 Ps52 hR52 => ?_))))
   obtain ⟨w52,rfl,rfl⟩:=hR52
   skip
   refine (M9 rfl rfl (L9 rfl (Pe9 rfl rfl rfl) (L9 rfl (Pe9 rfl rfl rfl) (G9 rfl rfl (G9 rfl rfl (N9 (X9 ?_)))))))
   refine Q9 (R9 (M9 rfl rfl (M9 rfl rfl (Lc9 rfl rfl (by decide) (Oc9 900 [0,101,600,601,602,603,700,800] [1] rfl Tryz.call64 rfl rfl rfl (by decide) (by decide) (file_spec g _ 2 _ (dirR (sortN (fileEs files ++ entsD dirs))) (dirR_len5 hE) _ (rs9 7 rfl rowB_rd)) (fun v57 Ps57 hR57 => ?_))))))
   obtain ⟨rfl,rfl⟩:=hR57
   skip
   refine (Lc09 rfl rfl (OpT_storeAll (r:=101) rfl Tryz.sizeOf29 rfl rfl rfl rfl ((bs_length _).trans (sha_length _)) (bs_one _) ?_))
   refine (N9 (X9 ?_))
   refine W_ret ?_
   refine X_join [600,601,602,603] 2 (htP (.mk gT gd gf dirs files)) rfl (by decide) (fun h hs => by rw [htP_mk]; exact hs) ?_
   refine X_turn (P':=bldP g (hist ++ (fileBs x.2.1 ++ y.2.2.2.2 ++ blocksF 2 (dirR (sortN (fileEs files ++ entsD dirs)))))) 900 rfl (fun h hp => by rw [← List.append_assoc,← List.append_assoc]; exact hp) ?_
   exact Xq9 [900,2] (Ps:=[_,_]) (resC1 (r:=101) Tryz.results38 rfl Tryz.isAgg29 Tryz.sizeOf29 rfl ((bs_length _).trans (sha_length _))) rfl (by decide) ⟨by rw [idT]; rfl,_,by rw [blocksT]; exact ((fileBs_perm hx1).append (hy3.trans (blocksDs_perm hy1))).append_right _,rfl⟩
  ·
   obtain ⟨b,l3,rfl,hb2,hb3⟩:=pick_map hy2 hpm
   have hbm : b ∈ dirs:=hy1.mem_iff.1 (List.mem_append.2 (.inr (hb2.mem_iff.2 (by simp))))
   obtain ⟨a1,c1,hspl⟩:=List.append_of_mem hbm
   refine (L9 rfl (Pe9 rfl rfl rfl) (N9 (X9 ?_)))
   refine Q9 ?_
   refine W_true rfl (rfl) ?_
   refine K9 (X9 ?_)
   refine W_block ?_
   refine Q9 (R9 (L9 rfl (Pu_entryQ (r:=601) rfl rfl rfl) (L9 rfl (Pe9 rfl rfl rfl) (L9 rfl (Pe9 rfl rfl rfl) (G9 rfl rfl (G9 rfl rfl (N9 (X9 ?_))))))))
   refine W_split 603 700 [htP b.2,starL (htsP (a1 ++ c1))] rfl (fun h hp => kids_out (d:=b) (by rw [← hspl]; exact hp)) ?_
   refine R9 (M9 rfl rfl (M9 rfl rfl (M9 rfl rfl (M9 rfl rfl (Lc9 rfl rfl (by decide) (Oc9 800 [0,101,499,600,601,602,701] [1,700] rfl Tryz.call38 rfl rfl rfl (by decide) (by decide) (ih b hbm (hist ++ fileBs x.2.1 ++ y.2.2.2.2) _ (fun v0 x0 hq => rs9 0 rfl (hR v0 x0 hq)) (ts9 0 rfl hT)) (fun v44 Ps44 hR44 => ?_)))))))
   obtain ⟨rfl,hs47,hp47,rfl⟩:=hR44
   skip
   refine (L9 rfl (Pu_build (V:=.agg (evC (dirEV b)).toArray) [(0,1),(1,32)] (entC [] zeroId) rfl rfl (by kernel_rfl) (by kernel_rfl) (.one rfl rfl (by simp [entC,bs_length,zeroId_length]) rfl (.many rfl ((bs_length _).trans (idT_length _)) (by simp [entC,bs_length,zeroId_length]) rfl (.nil _))) (congrArg (fun q : List Value => Value.agg q.toArray) (ent_build0 (idT_length _)))) (Lc9 rfl rfl (by decide) (OpT_buildRows (r:=803) [evC (dirEV b)] rfl rfl Tryz.runUnderlying118 Tryz.sizeOf122 Tryz.zeroValue122 rfl (by decide) rfl (by decide) (by intro r hr; simp at hr; rw [hr]; exact evC_length _) rfl (fun v46 => (Lc9 rfl rfl (by decide) (Oa9 (r:=499) (r2:=803) rfl Tryz.underlying118 TI.hi122 TI.hz122 TI.hs122 TI.hby122 TI.hzs122 (by decide) rfl rfl rfl rfl (fun _ h => rp9 h) (by intro u hu; simp at hu; exact evC_one _ u hu) (by unfold maxLen; omega) (by omega) (fun v47 => ?_)))))))
   refine (G9 rfl rfl (N9 (X_block ?_)))
   refine X_join [801,701] 603 (starL (htsP dirs)) rfl (by decide) (fun h hs => by rw [hspl]; exact kids_in (d:=b) hs) ?_
   refine X_turn (P':=bldP g (hist ++ fileBs x.2.1 ++ (y.2.2.2.2 ++ hs47))) 800 rfl (fun h hp => by rw [← List.append_assoc]; exact hp) ?_
   refine X_ren 800 1 rfl ?_
   refine X_turn 601 rfl (fun h hp => mapQ_uncur hp) ?_
   refine X_turn (P':=rowP 122 33 v47 (x.2.1.length + (y.2.1 ++ [b]).length) (recC evC (x.2.1.map fileE ++ (y.2.1 ++ [b]).map dirEV))) 499 rfl (fun h hp => row_ed hp) ?_
   exact Xr9 (v47,y.2.1 ++ [b],l3,left,y.2.2.2.2 ++ hs47) ⟨by refine List.Perm.trans ?_ hy1; rw [List.append_assoc]; exact List.Perm.append_left _ hb2.symm,hb3,by rw [blocksDs_app]; exact hy3.append hp47⟩ (by have:=hb2.length_eq; simp at this; dsimp only; omega) (a9 rfl) (a9 rfl)
 ·
  obtain ⟨b,l3,rfl,hb2,hb3⟩:=pick_map hx2 hpm
  have hbm : b ∈ files:=hx1.mem_iff.1 (List.mem_append.2 (.inr (hb2.mem_iff.2 (by simp))))
  have hbf:=hfit.2.1 b hbm
  refine (L9 rfl (Pe9 rfl rfl rfl) (N9 (X9 ?_)))
  refine Q9 ?_
  refine W_true rfl (rfl) ?_
  refine K9 (X9 ?_)
  refine W_block ?_
  refine Q9 (R9 (L9 rfl (Pu_entryQ (r:=602) rfl rfl rfl) (L9 rfl (Pe9 rfl rfl rfl) (L9 rfl (Pe9 rfl rfl rfl) (G9 rfl rfl (G9 rfl rfl (N9 (X9 (R9 (M9 rfl rfl (M9 rfl rfl (M9 rfl rfl (M9 rfl rfl (Lc9 rfl rfl (by decide) (Oc9 700 [0,101,499,600,601,602,603] [1] rfl Tryz.call64 rfl rfl rfl (by decide) (by decide) (file_spec g _ 1 _ b.2.2 hbf.2.1 _ (rs9 0 rfl (hR _ _ hbf.2.2))) (fun v26 Ps26 hR26 => ?_))))))))))))))))
  obtain ⟨rfl,rfl⟩:=hR26
  skip
  refine (L9 rfl (Pu_build (V:=.agg (evC (fileE b)).toArray) [(0,1),(1,32)] (entC [] zeroId) rfl rfl (by kernel_rfl) (by kernel_rfl) (.one rfl rfl (by simp [entC,bs_length,zeroId_length]) rfl (.many rfl ((bs_length _).trans (sha_length _)) (by simp [entC,bs_length,zeroId_length]) rfl (.nil _))) (congrArg (fun q : List Value => Value.agg q.toArray) (ent_build0 (sha_length _)))) (Lc9 rfl rfl (by decide) (OpT_buildRows (r:=701) [evC (fileE b)] rfl rfl Tryz.runUnderlying118 Tryz.sizeOf122 Tryz.zeroValue122 rfl (by decide) rfl (by decide) (by intro r hr; simp at hr; rw [hr]; exact evC_length _) rfl (fun v28 => (Lc9 rfl rfl (by decide) (Oa9 (r:=499) (r2:=701) rfl Tryz.underlying118 TI.hi122 TI.hz122 TI.hs122 TI.hby122 TI.hzs122 (by decide) rfl rfl rfl rfl (fun _ h => rp9 h) (by intro u hu; simp at hu; exact evC_one _ u hu) (by unfold maxLen; omega) (by omega) (fun v29 => ?_)))))))
  refine (G9 rfl rfl (N9 (X_block ?_)))
  refine X_turn (P':=bldP g (hist ++ fileBs (x.2.1 ++ [b]))) 700 rfl (fun h hp => by rw [fileBs_app,← List.append_assoc]; exact hp) ?_
  refine X_ren 700 1 rfl ?_
  refine X_turn 602 rfl (fun h hp => mapQ_uncur hp) ?_
  refine X_turn (P':=rowP 122 33 v29 (x.2.1 ++ [b]).length (recC evC ((x.2.1 ++ [b]).map fileE))) 499 rfl (fun h hp => row_ev hp) ?_
  exact Xr9 (v29,x.2.1 ++ [b],l3,left) ⟨by refine List.Perm.trans ?_ hx1; rw [List.append_assoc]; exact List.Perm.append_left _ hb2.symm,hb3⟩ (by have:=hb2.length_eq; simp at this; dsimp only; omega) (a9 rfl) (a9 rfl)
open Go.RowKit
theorem starL_add {Ps : List HP} {P : HP} (hP : P (fun _ => none)) {h : Hlt} (hs : starL Ps h) : starL (Ps ++ [P]) h:=by
  obtain ⟨f,h1,h2,h3⟩:=hs
  refine ⟨fun k => if k < Ps.length then f k else fun _ => none,fun k Q hk => ?_,fun k k' g hne hg => ?_,fun k g o hg => ?_⟩
  · by_cases hl : k < Ps.length
    · simp only [hl,if_true]
      exact h1 k Q (by rwa [List.getElem?_append_left hl] at hk)
    · rw [List.getElem?_append_right (by omega)] at hk
      have hk0 : k - Ps.length = 0:=by
        cases hkk : k - Ps.length with
        | zero => rfl
        | succ j => rw [hkk] at hk; simp at hk
      rw [hk0] at hk
      simp at hk
      subst hk
      simp only [hl,if_false]
      exact hP
  · by_cases hl : k < Ps.length
    · simp only [hl,if_true] at hg
      by_cases hl' : k' < Ps.length
      · simp only [hl',if_true]; exact h2 k k' g hne hg
      · simp only [hl',if_false]
    · simp only [hl,if_false] at hg; simp at hg
  · by_cases hl : k < Ps.length
    · simp only [hl,if_true] at hg; exact h3 _ _ _ hg
    · simp only [hl,if_false] at hg; cases hg
def itC (x : F3) : List Value:=[sV x.1,x.2.1]
def it0 : F3:=([],.slice none 0 0,[])
abbrev rdIt (v : Value) (xs : List F3) : HP:=rdR itC 2 v xs
def datI (xs : List F3) : HP:=fun h => ∀ x ∈ xs,rdB x.2.1 x.2.2 h
theorem its_len (xs : List F3) : ∀ x ∈ xs,(itC x).length = 2:=fun _ _ => rfl
theorem its_all {xs : List F3} {k : Nat} (hk : k < xs.length) : ((recC itC xs).drop (k * 2)).take 2 = itC (xs.getD k it0):=recC_get (d:=it0) (its_len xs) hk
theorem itC_one {x : F3} (h : x.2.1.oneCell' = true) : ∀ u ∈ itC x,u.oneCell' = true:=by
  intro u hu
  simp [itC] at hu
  rcases hu with rfl | rfl
  · rfl
  · exact h
theorem splitN_len (l : List UInt8) : (splitN l).1.length ≤ l.length + 1:=by
  have:=splitL_len (l.drop 1)
  rw [List.length_drop] at this
  unfold splitN
  repeat' split
  all_goals first
    | (simp; done)
    | (simp at this ⊢; omega)
theorem splitN_mem {l x : List UInt8} (h : x ∈ (splitN l).1) : x.length ≤ l.length:=by
  unfold splitN at h
  split at h
  · simp at h
  · split at h
    · simp at h
    · split at h
      · simp at h
      · have:=splitL_mem h
        rw [List.length_drop] at this
        omega
def pathOf (x : F3) : List (List UInt8):=(splitN x.1).1
def firstW : List F3 → Nat
  | [] => 0
  | x :: r => if wrongI x.1 x.2.2 ≠ 0 then wrongI x.1 x.2.2 else firstW r
theorem firstW_at {xs : List F3} {k : Nat} (h : k < xs.length) : firstW (xs.drop k) = if wrongI (xs.getD k it0).1 (xs.getD k it0).2.2 ≠ 0 then wrongI (xs.getD k it0).1 (xs.getD k it0).2.2 else firstW (xs.drop (k + 1)):=by
  rw [List.drop_eq_getElem_cons h,firstW]
  simp [List.getElem?_eq_getElem h]
theorem firstW_zero : ∀ {xs : List F3},firstW xs = 0 → ∀ x ∈ xs,wrongI x.1 x.2.2 = 0
  | [],_,_,h => by cases h
  | y :: r,h0,x,h => by
    rw [firstW] at h0
    split at h0
    · omega
    · rename_i hy
      rcases List.mem_cons.1 h with rfl | h
      · omega
      · exact firstW_zero h0 x h
theorem wrongI_zero {p d : List UInt8} (h : wrongI p d = 0) : (splitN p).2 = 0 ∧ (splitN p).1 ≠ [] ∧ d.length ≤ 1000:=by
  unfold wrongI at h
  split at h
  · omega
  · split at h
    · omega
    · split at h
      · omega
      · rename_i h1 h2 h3
        exact ⟨by omega,fun hc => h2 (by rw [hc]; rfl),by omega⟩
def buildE (xs : List F3) : Nat:=if 20 < xs.length then 4 else if firstW xs ≠ 0 then firstW xs else if fits [] (xs.map pathOf) then 0 else 7
inductive Filled : List F3 → HT → Prop where
  | nil (g gd gf : Nat) : Filled [] (.mk g gd gf [] [])
  | snoc (l : List F3) (x : F3) (T T' : HT) : Filled l T → canPut (pathOf x) T = true → Put (pathOf x) x.2.1 x.2.2 T T' → Filled (l ++ [x]) T'
theorem Filled.can {l : List F3} {T : HT} (h : Filled l T) : ∀ r,r ≠ [] → canPut r T = l.all fun q => !clash (pathOf q) r:=by
  induction h with
  | nil g gd gf => intro r hr; rw [canPut_nil r hr]; rfl
  | snoc l x T T' h1 h2 h3 ih =>
    intro r hr
    rw [canPut_put _ _ _ _ _ h2 h3 r hr,ih r hr,List.all_append]
    simp
theorem Filled.fit {R : Value → List UInt8 → Prop} {l : List F3} {T : HT} (h : Filled l T) : (∀ x ∈ l,x.1.length ≤ 1000000 ∧ x.2.2.length ≤ 100000 ∧ R x.2.1 x.2.2) → Fit l.length R T:=by
  induction h with
  | nil g gd gf => intro _; exact Fit_nil _ _ _ _ _
  | snoc l x T T' h1 h2 h3 ih =>
    intro hx
    rw [List.length_append,List.length_singleton]
    have hx0:=hx x (by simp)
    exact Fit_put _ _ _ _ _ h2 h3 (ih fun y hy => hx y (by simp [hy])) (fun n hn => by have:=splitN_mem hn; omega) hx0.2.1 hx0.2.2
theorem fits_step {ps : List (List (List UInt8))} {k : Nat} (h : k < ps.length) : fits (ps.take k) (ps.drop k) = ((ps.take k).all (fun q => !clash q (ps.getD k [])) && fits (ps.take (k + 1)) (ps.drop (k + 1))):=by
  rw [List.drop_eq_getElem_cons h,fits]
  have e : ps.take k ++ [ps[k]] = ps.take (k + 1):=by rw [List.take_add_one]; simp [List.getElem?_eq_getElem h]
  rw [e]
  simp [List.getElem?_eq_getElem h]
abbrev TB:=List UInt8 × List UInt8 × Int × Int
abbrev EB:=BV × List UInt8
def toTB (p : EB) : TB:=(p.1.key,p.2,p.1.src,p.1.exp)
def datE (es : List EB) : HP:=fun h => ∀ p ∈ es,rdB p.1.sl p.2 h
def treeP (v : Value) (l : List TB) : HP:=fun h => ∃ es : List EB,es.map toTB = l ∧ starL [rowP 59 35 v es.length (recC bvC (es.map (·.1))),datE es] h
def treeC (v : Value) (id : List UInt8) : List Value:=v :: bs id
def lbV (p : LB) : EB:=if h : p.1.length = 32 ∧ p.2.1.oneCell' = true then (⟨(p.1,p.2.1,0,0),h⟩,p.2.2) else (default,p.2.2)
abbrev LOk (p : LB) : Prop:=p.1.length = 32 ∧ p.2.1.oneCell' = true
theorem lbV_ok {p : LB} (h : LOk p) : lbV p = (⟨(p.1,p.2.1,0,0),h⟩,p.2.2):=by unfold lbV; rw [dif_pos h]
theorem lbV_c {p : LB} (h : LOk p) : bvC (lbV p).1 = bkC p.1 p.2.1 0 0:=by rw [lbV_ok h]; rfl
theorem lbV_tb {p : LB} (h : LOk p) : toTB (lbV p) = (p.1,p.2.2,0,0):=by rw [lbV_ok h]; rfl
theorem lbV_sl {p : LB} (h : LOk p) : (lbV p).1.sl = p.2.1 ∧ (lbV p).2 = p.2.2:=by rw [lbV_ok h]; exact ⟨rfl,rfl⟩
theorem perm_lift {α β : Type} {f : α → β} : ∀ {xs : List β} {es : List α},xs.Perm (es.map f) → ∃ ys : List α,ys.Perm es ∧ ys.map f = xs
  | [],es,h => ⟨[],by have h1:=h.length_eq; simp only [List.length_nil,List.length_map] at h1; rw [List.length_eq_zero_iff.1 h1.symm],rfl⟩
  | x :: xs,es,h => by
    obtain ⟨e,he,rfl⟩:=List.mem_map.1 (h.mem_iff.1 (List.mem_cons_self))
    obtain ⟨a,c,rfl⟩:=List.append_of_mem he
    have h2 : (f e :: xs).Perm (f e :: (a ++ c).map f):=h.trans (List.Perm.map f List.perm_middle)
    obtain ⟨ys,h3,h4⟩:=perm_lift h2.cons_inv
    exact ⟨e :: ys,(h3.cons e).trans List.perm_middle.symm,by rw [List.map_cons,h4]⟩
structure TreeOf (hist : List (List UInt8)) (l : List TB) : Prop where
  sorted : l.Pairwise fun a b => ltK a.1 b.1 = true
  from_ : ∀ p ∈ l,p.1 = sha p.2.1 ∧ p.2.1 ∈ hist ∧ p.2.2 = (0,0)
  all : ∀ d ∈ hist,sha d ∈ l.map (·.1)
theorem ltK_of_not {a b : List UInt8} (h : ltK b a = false) (hne : a ≠ b) : ltK a b = true:=by
  rw [ltK_less] at *
  exact less_of_not (by rw [h]; simp) (Ne.symm hne)
theorem tree_done {hist hist' : List (List UInt8)} {es seen : List LB} (hl : Laid hist es) (hok : ∀ p ∈ es,LOk p) (hp : seen.Perm es) (hh : hist.Perm hist') {ys : List BV} (hy : ys.Perm ((seen.map lbV).map (·.1))) (hs : ys.Pairwise fun a b => ltK b.key a.key = false) :
    ∃ zs : List EB,zs.map (·.1) = ys ∧ TreeOf hist' (zs.map toTB) ∧ ∀ v (h : Hlt),starL [rowP 59 35 v ys.length (recC bvC ys),datL es] h → treeP v (zs.map toTB) h:=by
  obtain ⟨zs,hz1,hz2⟩:=perm_lift hy
  have hz3 : zs.Perm (es.map lbV):=hz1.trans (hp.map _)
  have hmem : ∀ z ∈ zs,∃ p ∈ es,z = lbV p:=fun z hz => by
    obtain ⟨p,hp1,hp2⟩:=List.mem_map.1 (hz3.mem_iff.1 hz)
    exact ⟨p,hp1,hp2.symm⟩
  have hkeys : (zs.map fun z => z.1.key).Perm (es.map (·.1)):=by
    refine (hz3.map _).trans ?_
    rw [List.map_map]
    refine List.Perm.of_eq (List.map_congr_left fun p hp1 => ?_)
    show (lbV p).1.key = p.1
    rw [lbV_ok (hok p hp1)]
    rfl
  refine ⟨zs,hz2,⟨?_,fun t ht => ?_,fun d hd => ?_⟩,fun v h hs2 => ⟨zs,rfl,?_⟩⟩
  · rw [List.pairwise_map]
    have h1 : zs.Pairwise fun a b => ltK b.1.key a.1.key = false:=by
      rw [← hz2,List.pairwise_map] at hs
      exact hs
    have h2 : zs.Pairwise fun a b => a.1.key ≠ b.1.key:=by
      have:=nodup_ne ((hkeys.nodup_iff).2 hl.nodup)
      rwa [List.pairwise_map] at this
    exact (h1.and h2).imp fun h => ltK_of_not h.1 h.2
  · obtain ⟨z,hz,rfl⟩:=List.mem_map.1 ht
    obtain ⟨p,hp1,rfl⟩:=hmem z hz
    rw [lbV_tb (hok p hp1)]
    obtain ⟨h1,h2⟩:=hl.from_ p hp1
    exact ⟨h1,hh.mem_iff.1 h2,rfl⟩
  · have h1:=hl.all d (hh.mem_iff.2 hd)
    rw [List.map_map]
    exact hkeys.mem_iff.2 h1
  · obtain ⟨f,h1,h2,h3⟩:=hs2
    have hf1:=h1 1 _ rfl
    refine ⟨f,fun k Q hk => ?_,h2,h3⟩
    match k,hk with
    | 0,hk =>
      simp at hk
      subst hk
      rw [hz2,show zs.length = ys.length by rw [← hz2,List.length_map]]
      exact h1 0 _ rfl
    | 1,hk =>
      simp at hk
      subst hk
      intro z hz
      obtain ⟨p,hp1,rfl⟩:=hmem z hz
      rw [(lbV_sl (hok p hp1)).1,(lbV_sl (hok p hp1)).2]
      exact hf1 p hp1
    | k + 2,hk => simp at hk
theorem laid_ok {hist : List (List UInt8)} {es : List LB} (hl : Laid hist es) {h : Hlt} (hd : datL es h) : ∀ p ∈ es,LOk p:=fun p hp => ⟨by rw [(hl.from_ p hp).1]; exact sha_length _,rd_one (hd p hp)⟩
theorem treeP_nil {h : Hlt} (hr : rowP 59 35 (.slice none 0 0) 0 [] h) : treeP (.slice none 0 0) [] h:=⟨[],rfl,starL_add (Ps:=[_]) (fun p hp => by cases hp) (starL_one hr)⟩
end Go.Proofs.YthkdkmaacjpneaaGreatDoor
namespace Go.Proofs.YthkdkmaacjpneaaGreatDoor.TI
theorem hi59 : Tryz.prog.info? 59 = some Tryz.t59:=by kernel_rfl
theorem hz59 : Tryz.t59.zero = some (.agg (bkC zeroId (.slice none 0 0) 0 0).toArray):=by kernel_rfl
theorem hs59 : Tryz.t59.size = 35:=by kernel_rfl
theorem hby59 : Tryz.t59.bytes = 72:=by kernel_rfl
theorem hzs59 : (.agg (bkC zeroId (.slice none 0 0) 0 0).toArray : Value).cells.size = 35:=by kernel_rfl
theorem hi38 : Tryz.prog.info? 38 = some Tryz.t38:=by kernel_rfl
theorem hz38 : Tryz.t38.zero = some (.agg #[.string ⟨#[]⟩,.slice none 0 0]):=by kernel_rfl
theorem hs38 : Tryz.t38.size = 2:=by kernel_rfl
theorem hby38 : Tryz.t38.bytes = 40:=by kernel_rfl
theorem hzs38 : (.agg #[.string ⟨#[]⟩,.slice none 0 0] : Value).cells.size = 2:=by kernel_rfl
theorem hi100 : Tryz.prog.info? 100 = some Tryz.t100:=by kernel_rfl
theorem hz100 : Tryz.t100.zero = some (.agg #[.slice none 0 0,.slice none 0 0]):=by kernel_rfl
theorem hs100 : Tryz.t100.size = 2:=by kernel_rfl
theorem hby100 : Tryz.t100.bytes = 48:=by kernel_rfl
theorem hzs100 : (.agg #[.slice none 0 0,.slice none 0 0] : Value).cells.size = 2:=by kernel_rfl
end Go.Proofs.YthkdkmaacjpneaaGreatDoor.TI
namespace Go.Proofs.YthkdkmaacjpneaaGreatDoor
open Go.RowKit
set_option maxRecDepth 8000
theorem folder_spec (g m : Nat) (R : Value → List UInt8 → Prop) (hm : m ≤ 1000) : ∀ (T : HT),Fit m R T → ∀ (hist : List (List UInt8)) (F : HP),(∀ v x,R v x → ∀ h,F h → rdB v x h) → (∀ h,F h → tabsP h) → CallsS Tryz.prog 38 #[.pointer (some ⟨g,0,none⟩),.pointer (some ⟨T.g,0,none⟩)] F [bldP g hist,htP T] (fun r Ps => r = idV (idT T) ∧ ∃ hs : List (List UInt8),hs.Perm (blocksT T) ∧ Ps = [bldP g (hist ++ hs),htP T])
  | .mk gT gd gf dirs files,hF0 => folder_walk g m R hm gT gd gf dirs files hF0 (fun d hd => folder_spec g m R hm d.2 (FitL_iff.1 (Fit_mk.1 hF0).2.2.1 d hd).2)
termination_by T => SizeOf.sizeOf T
decreasing_by
  have h1:=List.sizeOf_lt_of_mem hd
  have h2 : SizeOf.sizeOf d = 1 + SizeOf.sizeOf d.1 + SizeOf.sizeOf d.2:=by cases d; rfl
  simp only [HT.mk.sizeOf_spec]
  omega
theorem treeC_length {v : Value} {id : List UInt8} (h : id.length = 32) : (treeC v id).length = 33:=by simp [treeC,bs_length,h]
theorem treeC_one {v : Value} {id : List UInt8} (h : v.oneCell' = true) : ∀ u ∈ treeC v id,u.oneCell' = true:=by
  intro u hu
  rcases List.mem_cons.1 hu with rfl | hu
  · exact h
  · exact bs_one id u hu
theorem tree_build {id : List UInt8} (h : id.length = 32) : over (treeC (.slice none 0 0) zeroId) 1 (bs id) = treeC (.slice none 0 0) id:=by
  have hz : (bs zeroId).length = 32:=by rw [bs_length,zeroId_length]
  have:=over_mid [.slice none 0 0] (bs zeroId) (bs id) [] (by rw [hz,bs_length,h])
  simpa [treeC] using this
theorem bk_build {id : List UInt8} {v : Value} (h : id.length = 32) : (over (bkC zeroId (.slice none 0 0) 0 0) 0 (bs id)).set 32 v = bkC id v 0 0:=by
  have hz : (bs zeroId).length = 32:=by rw [bs_length,zeroId_length]
  have:=over_mid [] (bs zeroId) (bs id) [.slice none 0 0,.int .i64 0,.int .i64 0] (by rw [hz,bs_length,h])
  simp only [List.nil_append,List.length_nil] at this
  unfold bkC
  rw [this]
  rw [List.set_append_right _ _ (by rw [bs_length]; omega),bs_length,h]
  rfl
theorem row_lb {v : Value} {xs : List LB} {b : LB} {h : Hlt} (hp : rowP 59 35 v (xs.length + 1) (recC bvC ((xs.map lbV).map (·.1)) ++ [bvC (lbV b).1].flatten) h) : rowP 59 35 v (xs ++ [b]).length (recC bvC (((xs ++ [b]).map lbV).map (·.1))) h:=by
  rw [List.length_append,List.map_append,List.map_append,recC_append,List.map_cons,List.map_nil,List.map_cons,List.map_nil,recC_one]
  simpa using hp
theorem above_len : ∀ (f : Nat) (l : List (List UInt8)),(above f l).1.length ≤ l.length
  | 0,l => by rw [above]; simp
  | f + 1,l => by
    by_cases h : 1 < l.length
    · rw [above_big h]
      have h1:=above_len f ((rowsI l).map sha)
      rw [List.length_map,rowsI_length] at h1
      rw [List.length_append,rowsI_length]
      omega
    · rw [above_small h]; simp
theorem blocksF_len (k : Int) {d : List UInt8} (h : d.length ≤ 100000) : (blocksF k d).length ≤ 4000:=by
  unfold blocksF aboveD
  have h1:=above_len (d.length + 1) ((rowsD d).map sha)
  rw [List.length_map,rowsD_length] at h1
  rw [List.length_append,List.length_append,rowsD_length,List.length_singleton]
  omega
mutual
def cnt : HT → Nat
  | .mk _ _ _ dirs files => 1 + files.length + cntD dirs
def cntD : List (List UInt8 × HT) → Nat
  | [] => 0
  | d :: ds => cnt d.2 + cntD ds
end
theorem cnt_mk (g gd gf : Nat) (dirs : List (List UInt8 × HT)) (files : List F3) : cnt (.mk g gd gf dirs files) = 1 + files.length + cntD dirs:=by rw [cnt]
theorem cntD_app : ∀ (a b : List (List UInt8 × HT)),cntD (a ++ b) = cntD a + cntD b
  | [],b => by rw [List.nil_append,cntD]; omega
  | d :: a,b => by rw [List.cons_append,cntD,cntD,cntD_app a b]; omega
theorem cnt_put : ∀ (p : List (List UInt8)) (v : Value) (d : List UInt8) (T T' : HT),Put p v d T T' → cnt T' ≤ cnt T + p.length
  | [],_,_,_,_,h => by simp [Put] at h
  | [n],v,d,.mk g gd gf dirs files,T',hp => by
    simp only [Put] at hp
    subst hp
    rw [cnt_mk,cnt_mk,List.length_append,List.length_singleton,List.length_singleton]
    omega
  | n :: k :: p,v,d,.mk g gd gf dirs files,T',hp => by
    simp only [Put] at hp
    rcases hp with ⟨a,c,t,t',rfl,_,hpt,rfl⟩ | ⟨_,g1,gd1,gf1,t',hpt,rfl⟩
    · have:=cnt_put (k :: p) v d t t' hpt
      rw [cnt_mk,cnt_mk,cntD_app,cntD_app,cntD,cntD,List.length_cons]
      dsimp only
      omega
    · have:=cnt_put (k :: p) v d _ t' hpt
      rw [cnt_mk,cntD] at this
      rw [cnt_mk,cnt_mk,cntD_app,cntD,cntD,List.length_cons]
      simp only [List.length_nil] at this ⊢
      omega
theorem Filled.cnt_le {b : Nat} {l : List F3} {T : HT} (h : Filled l T) : (∀ x ∈ l,(pathOf x).length ≤ b) → cnt T ≤ 1 + l.length * b:=by
  induction h with
  | nil g gd gf => intro _; rw [cnt_mk,cntD]; simp
  | snoc l x T T' h1 h2 h3 ih =>
    intro hx
    have h4:=cnt_put _ _ _ _ _ h3
    have h5:=ih fun y hy => hx y (by simp [hy])
    have h6:=hx x (by simp)
    rw [List.length_append,List.length_singleton,Nat.succ_mul]
    omega
theorem fileBs_len : ∀ {fs : List F3},(∀ x ∈ fs,x.2.2.length ≤ 100000) → (fileBs fs).length ≤ 4000 * fs.length
  | [],_ => by simp [fileBs]
  | f :: fs,h => by
    have h1:=fileBs_len (fs:=fs) fun x hx => h x (by simp [hx])
    have h2:=blocksF_len 1 (h f (by simp))
    unfold fileBs at h1 ⊢
    rw [List.map_cons,List.flatten_cons,List.length_append,List.length_cons]
    omega
theorem sortEs (m : Nat) (R : Value → List UInt8 → Prop) (dirs : List (List UInt8 × HT)) (files : List F3) : Ents (sortN (fileEs files ++ entsD dirs)):=fun e he => by
  rcases List.mem_append.1 ((sortN_perm _).mem_iff.1 he) with h | h
  · obtain ⟨f,_,rfl⟩:=List.mem_map.1 h; exact sha_length _
  · rw [entsD_map] at h; obtain ⟨d,_,rfl⟩:=List.mem_map.1 h; exact idT_length _
mutual
theorem blocksT_len {m : Nat} {R : Value → List UInt8 → Prop} : ∀ {T : HT},Fit m R T → (blocksT T).length ≤ 4000 * cnt T
  | .mk g gd gf dirs files,h => by
    rw [Fit_mk] at h
    have h1:=fileBs_len fun x hx => (h.2.1 x hx).2.1
    have h2:=blocksDs_len h.2.2.1
    have h3:=blocksF_len 2 (dirR_len5 (sortEs m R dirs files))
    rw [blocksT,cnt_mk,List.length_append,List.length_append]
    omega
theorem blocksDs_len {m : Nat} {R : Value → List UInt8 → Prop} : ∀ {ds : List (List UInt8 × HT)},FitL m R ds → (blocksDs ds).length ≤ 4000 * cntD ds
  | [],_ => by rw [blocksDs]; simp
  | d :: ds,h => by
    rw [FitL] at h
    have h1:=blocksT_len h.2.1
    have h2:=blocksDs_len h.2.2
    rw [blocksDs,cntD,List.length_append]
    omega
end
theorem build_spec (v : Value) (xs : List F3) (hxn : xs.length ≤ 1000000000000) (hb : ∀ x ∈ xs,x.1.length ≤ 900000 ∧ x.2.2.length ≤ 100000000000) (F : HP) (hF : ∀ h,F h → rdIt v xs h) (hD : ∀ h,F h → datI xs h) (hT : ∀ h,F h → tabsP h) : CallsS Tryz.prog 16 #[v] F [] (fun r Ps => ∃ (v' : Value) (id : List UInt8) (l : List TB),r = .tuple #[.agg (treeC v' id).toArray,.int .i64 (buildE xs : Int)] ∧ Ps = [treeP v' l] ∧ id.length = 32 ∧ (buildE xs ≠ 0 → l = [] ∧ v' = .slice none 0 0 ∧ id = zeroId) ∧ (buildE xs = 0 → ∃ T,Filled xs T ∧ id = idT T ∧ TreeOf (blocksT T) l)):=by
 refine callsS_enter Tryz.func16 rfl Tryz.ntmps16 (by simp) (fun E => ?_)
 refine Q9 (R9 (Lc9 rfl rfl (by decide) (OpT_alloc (r:=101) (cs:=(treeC (.slice none 0 0) zeroId)) rfl (zero_run (by kernel_rfl : (Tryz.prog.info? 31).bind (·.zero) = some (.agg (treeC (.slice none 0 0) zeroId).toArray))) rfl (fun g101 => (G9 rfl rfl (N9 (X9 (Q9 (Q9 ?_)))))))))
 refine W_nilRow 1 59 35 ?_
 refine W_fact (r:=0) rfl (fun h hp x hx => rd_one (hD h hp x hx)) (fun (hone : ∀ x ∈ xs,x.2.1.oneCell' = true) => ?_)
 refine R9 (M9 rfl rfl (L9 rfl (Pl9 (r:=0) rfl Tryz.runUnderlying24 rfl rfl hF) (L9 rfl (Pn9 rfl rfl rfl (run_gtr _ _ _ _ _ _)) (N9 (X9 ?_)))))
 refine C9 rfl (fun hc18 => ?_) (fun hc18 => ?_)
 ·
  have hbe : buildE xs = 4:=by unfold buildE; rw [if_pos (by have:=of_decide_eq_true hc18; omega)]
  refine Q9 (R9 (L9 rfl (Pu_build (V:=.agg (treeC (.slice none 0 0) zeroId).toArray) [(0,1),(1,32)] (treeC (.slice none 0 0) zeroId) rfl rfl (by kernel_rfl) (by kernel_rfl) (.nil _) rfl) (Lc09 rfl rfl (OpT_storeAll (r:=101) rfl Tryz.sizeOf31 rfl rfl rfl rfl rfl (treeC_one rfl) ?_))))
  refine (G9 rfl rfl (N9 (X9 ?_)))
  refine W_ret (X_then_ret ?_)
  refine X_turn (P':=treeP (.slice none 0 0) []) 1 rfl (fun h hp => treeP_nil hp) ?_
  exact Xq9 [1] (Ps:=[_]) (resC2 (r:=101) Tryz.results16 rfl rfl Tryz.isAgg31 Tryz.sizeOf31 rfl (treeC_length zeroId_length)) rfl (by decide) ⟨.slice none 0 0,zeroId,[],by rw [hbe] <;> rfl,rfl,zeroId_length,fun _ => ⟨rfl,rfl,rfl⟩,fun h => absurd h (by rw [hbe]; first | decide | exact hne)⟩
 ·
  have hn20 : xs.length ≤ 20:=by have:=of_decide_eq_false hc18; omega
  refine K9 (X9 ?_)
  refine Q9 (Q9 ?_)
  have hn20 : xs.length ≤ 20:=by have:=of_decide_eq_false hc18; omega
  refine R9 (M9 rfl rfl (L9 rfl (Pl9 (r:=0) rfl Tryz.runUnderlying24 rfl rfl hF) (M9 rfl rfl (N9 (X9 ?_)))))
  refine W_block ?_
  refine W_loop (α:=Nat) (fun x => [(0,v),(2,.pointer (some ⟨g101,0,none⟩)),(20,v),(21,.int .i64 (xs.length : Int)),(22,.int .i64 (x : Int))]) (fun x => [(0,F),(1,rowP 59 35 (.slice none 0 0) 0 []),(101,blk g101 31 (treeC (.slice none 0 0) zeroId))]) (fun x => x ≤ xs.length ∧ firstW (xs.drop x) = firstW xs) (fun x => xs.length - x) (0) ⟨Nat.zero_le _,rfl⟩ (a9 rfl) (a9 rfl) (fun x hx => ?_)
  obtain ⟨hx,hfw⟩:=hx
  refine Q9 (R9 (L9 rfl (Pn9 rfl rfl rfl (run_lss _ _ _ _ _ _)) (N9 (X9 (Q9 ?_)))))
  refine C9 rfl (fun hc23 => ?_) (fun hc23 => ?_)
  ·
   have hlt : x < xs.length:=by have:=of_decide_eq_true hc23; omega
   have hxm : xs.getD x it0 ∈ xs:=getD_mem' hlt
   have hxb:=hb _ hxm
   have hxo:=hone _ hxm
   refine K9 (X9 ?_)
   refine Q9 ?_
   refine W_block ?_
   refine Q9 (R9 (L9 rfl (Pi9 (r:=0) rfl Tryz.runUnderlying24 Tryz.sizeOf38 rfl rfl rfl hF (by omega)) (L9 rfl (Pz9 (r:=0) rfl Tryz.isAgg38 Tryz.sizeOf38 rfl rfl hF rfl (by decide) (its_all hlt)) (Lc9 rfl rfl (by decide) (OpT_alloc (r:=102) (cs:=(itC it0)) rfl (zero_run (by kernel_rfl : (Tryz.prog.info? 38).bind (·.zero) = some (.agg (itC it0).toArray))) rfl (fun g102 => (Lc09 rfl rfl (OpT_storeAll (r:=102) rfl Tryz.sizeOf38 rfl rfl rfl rfl rfl (itC_one hxo) ?_))))))))
   refine (N9 (X9 ?_))
   refine Q9 (R9 (L9 rfl (Px9 (r:=102) rfl Tryz.isAgg38 Tryz.sizeOf38 rfl rfl rfl (load_all rfl)) (Lc9 rfl rfl (by decide) (Oc9 200 [0,1,101,102] [] rfl Tryz.call34 rfl rfl rfl (by decide) (by decide) (wrongI_spec (xs.getD x it0).1 (xs.getD x it0).2.2 (xs.getD x it0).2.1 (by omega) hxb.2 _ (rs9 0 rfl (fun h hp => hD h hp _ hxm)) (ts9 0 rfl hT)) (fun v27 Ps27 hR27 => ?_)))))
   obtain ⟨rfl,rfl⟩:=hR27
   refine (G9 rfl rfl (N9 (X9 ?_)))
   refine Q9 (R9 (M9 rfl rfl (L9 rfl (Pn9 rfl rfl rfl (run_neq _ _ _ _ _ _)) (N9 (X9 ?_)))))
   refine C9 rfl (fun hc29 => ?_) (fun hc29 => ?_)
   ·
    have hne : wrongI (xs.getD x it0).1 (xs.getD x it0).2.2 ≠ 0:=by simpa using hc29
    have hbe : buildE xs = wrongI (xs.getD x it0).1 (xs.getD x it0).2.2:=by unfold buildE; rw [if_neg (by omega),← hfw,firstW_at hlt,if_pos hne,if_pos hne]
    refine Q9 (R9 (L9 rfl (Pu_build (V:=.agg (treeC (.slice none 0 0) zeroId).toArray) [(0,1),(1,32)] (treeC (.slice none 0 0) zeroId) rfl rfl (by kernel_rfl) (by kernel_rfl) (.nil _) rfl) (M9 rfl rfl (Lc09 rfl rfl (OpT_storeAll (r:=101) rfl Tryz.sizeOf31 rfl rfl rfl rfl rfl (treeC_one rfl) ?_)))))
    refine (G9 rfl rfl (N9 (X9 ?_)))
    refine W_ret (X_block_ret (X_then_ret (X_then_ret (X_block_ret (X_then_ret ?_)))))
    refine X_turn (P':=treeP (.slice none 0 0) []) 1 rfl (fun h hp => treeP_nil hp) ?_
    exact Xq9 [1] (Ps:=[_]) (resC2 (r:=101) Tryz.results16 rfl rfl Tryz.isAgg31 Tryz.sizeOf31 rfl (treeC_length zeroId_length)) rfl (by decide) ⟨.slice none 0 0,zeroId,[],by rw [hbe] <;> rfl,rfl,zeroId_length,fun _ => ⟨rfl,rfl,rfl⟩,fun h => absurd h (by rw [hbe]; first | decide | exact hne)⟩
   ·
    have hgood : wrongI (xs.getD x it0).1 (xs.getD x it0).2.2 = 0:=by simpa using hc29
    refine K9 (X_block (X9 ?_))
    refine R9 (L9 rfl (Pn9 rfl rfl rfl (run_add _ _ _ _ _ (by omega))) (M9 rfl rfl (N9 ?_)))
    exact Xr9 (x + 1) ⟨by omega,by rw [← hfw,firstW_at hlt,if_neg (fun h => h hgood)]⟩ (by omega) (a9 rfl) (a9 rfl)
  ·
   have hge : xs.length ≤ x:=by have:=of_decide_eq_false hc23; omega
   have hfw0 : firstW xs = 0:=by rw [← hfw,List.drop_of_length_le hge]; rfl
   refine W_exit (X_then_exit (X_then_exit (X_block_exit (X9 ?_))))
   refine Q9 (R9 (Lc9 rfl rfl (by decide) (Oc9 200 [0,1,101] [] rfl Tryz.call35 rfl rfl rfl (by decide) (by decide) (empty_spec _) (fun v33 Ps33 hR33 => ?_))))
   obtain ⟨g7,gd7,gf7,rfl,rfl⟩:=hR33
   skip
   refine (G9 rfl rfl (N9 (X9 ?_)))
   refine Q9 (Q9 (R9 (M9 rfl rfl (L9 rfl (Pl9 (r:=0) rfl Tryz.runUnderlying24 rfl rfl hF) (M9 rfl rfl (N9 (X9 ?_)))))))
   refine W_block ?_
   have hzw:=firstW_zero hfw0
   have hpl : (xs.map pathOf).length = xs.length:=List.length_map _
   refine W_loop (α:=Nat × HT) (fun y => [(0,v),(2,.pointer (some ⟨g101,0,none⟩)),(7,.pointer (some ⟨g7,0,none⟩)),(34,v),(35,.int .i64 (xs.length : Int)),(36,.int .i64 (y.1 : Int))]) (fun y => [(0,F),(1,rowP 59 35 (.slice none 0 0) 0 []),(101,blk g101 31 (treeC (.slice none 0 0) zeroId)),(200,htP y.2)]) (fun y => y.1 ≤ xs.length ∧ y.2.g = g7 ∧ Filled (xs.take y.1) y.2 ∧ fits ((xs.map pathOf).take y.1) ((xs.map pathOf).drop y.1) = fits [] (xs.map pathOf)) (fun y => xs.length - y.1) ((0,.mk g7 gd7 gf7 [] [])) ⟨Nat.zero_le _,rfl,Filled.nil _ _ _,rfl⟩ (a9 rfl) (a9 rfl) (fun y hy => ?_)
   obtain ⟨hy,hyg,hyf,hyt⟩:=hy
   refine Q9 (R9 (L9 rfl (Pn9 rfl rfl rfl (run_lss _ _ _ _ _ _)) (N9 (X9 (Q9 ?_)))))
   refine C9 rfl (fun hc37 => ?_) (fun hc37 => ?_)
   ·
    have hlt2 : y.1 < xs.length:=by have:=of_decide_eq_true hc37; omega
    have hxm2 : xs.getD y.1 it0 ∈ xs:=getD_mem' hlt2
    have hxb2:=hb _ hxm2
    have hxo2:=hone _ hxm2
    obtain ⟨hz1,hz2,hz3⟩:=wrongI_zero (hzw _ hxm2)
    have hzl:=splitN_len (xs.getD y.1 it0).1
    have hcf:=hyf.can (pathOf (xs.getD y.1 it0)) hz2
    have hpe : (xs.map pathOf).getD y.1 [] = pathOf (xs.getD y.1 it0):=by simp [hlt2]
    have hal2 : ((xs.map pathOf).take y.1).all (fun q => !clash q ((xs.map pathOf).getD y.1 [])) = canPut (pathOf (xs.getD y.1 it0)) y.2:=by rw [hcf,hpe,← List.map_take,List.all_map]; rfl
    refine K9 (X9 ?_)
    refine Q9 ?_
    refine W_block ?_
    refine Q9 (R9 (L9 rfl (Pi9 (r:=0) rfl Tryz.runUnderlying24 Tryz.sizeOf38 rfl rfl rfl hF (by omega)) (L9 rfl (Pz9 (r:=0) rfl Tryz.isAgg38 Tryz.sizeOf38 rfl rfl hF rfl (by decide) (its_all hlt2)) (Lc9 rfl rfl (by decide) (OpT_alloc (r:=201) (cs:=(itC it0)) rfl (zero_run (by kernel_rfl : (Tryz.prog.info? 38).bind (·.zero) = some (.agg (itC it0).toArray))) rfl (fun g201 => (Lc09 rfl rfl (OpT_storeAll (r:=201) rfl Tryz.sizeOf38 rfl rfl rfl rfl rfl (itC_one hxo2) ?_))))))))
    refine (N9 (X9 ?_))
    refine Q9 (R9 (L9 rfl (F9 0 rfl rfl) (L9 rfl (Pb9 (r:=201) rfl Tryz.isAgg9 rfl rfl rfl) (Lc9 rfl rfl (by decide) (Oc9 300 [0,1,101,200,201] [] rfl Tryz.call36 rfl rfl rfl (by decide) (by decide) (split_nspec (xs.getD y.1 it0).1 (by omega) _ (ts9 0 rfl hT)) (fun v43 Ps43 hR43 => ?_))))))
    obtain ⟨vs43,rfl,rfl⟩:=hR43
    skip
    refine (M9 rfl rfl (L9 rfl (Pe9 rfl rfl rfl) (L9 rfl (Pe9 rfl rfl rfl) (G9 rfl rfl (G9 rfl rfl (N9 (X9 ?_)))))))
    refine Q9 (R9 (M9 rfl rfl (M9 rfl rfl (L9 rfl (F9 1 rfl rfl) (L9 rfl (Pb9 (r:=201) rfl Tryz.isAgg36 rfl rfl rfl) (Lc9 rfl rfl (by decide) (Oc9 400 [0,1,101,201,300] [200] rfl Tryz.call37 (by rw [← hyg]; rfl) rfl rfl (by decide) (by decide) (put_spec (splitN (xs.getD y.1 it0).1).1 y.2 vs43 (xs.getD y.1 it0).2.1 (xs.getD y.1 it0).2.2 _ hz2 (by omega) (rs9 4 rfl rowS_rd)) (fun v50 Ps50 hR50 => ?_))))))))
    obtain ⟨T1,hg1,rfl,hput1,rfl⟩:=hR50
    skip
    refine (L9 rfl (Pu_un rfl rfl (run_not _)) (N9 (X9 ?_)))
    refine C9 rfl (fun hc51 => ?_) (fun hc51 => ?_)
    ·
     have hcan : canPut (pathOf (xs.getD y.1 it0)) y.2 = false:=by simpa [pathOf] using hc51
     have hnf : fits [] (xs.map pathOf) = false:=by rw [← hyt,fits_step (by omega),hal2,hcan]; rfl
     have hbe : buildE xs = 7:=by unfold buildE; rw [if_neg (by omega),if_neg (fun h => h hfw0),hnf]; rfl
     refine Q9 (R9 (L9 rfl (Pu_build (V:=.agg (treeC (.slice none 0 0) zeroId).toArray) [(0,1),(1,32)] (treeC (.slice none 0 0) zeroId) rfl rfl (by kernel_rfl) (by kernel_rfl) (.nil _) rfl) (Lc09 rfl rfl (OpT_storeAll (r:=101) rfl Tryz.sizeOf31 rfl rfl rfl rfl rfl (treeC_one rfl) ?_))))
     refine (G9 rfl rfl (N9 (X9 ?_)))
     refine W_ret (X_block_ret (X_then_ret (X_then_ret (X_block_ret (X_then_ret ?_)))))
     refine X_turn (P':=treeP (.slice none 0 0) []) 1 rfl (fun h hp => treeP_nil hp) ?_
     exact Xq9 [1] (Ps:=[_]) (resC2 (r:=101) Tryz.results16 rfl rfl Tryz.isAgg31 Tryz.sizeOf31 rfl (treeC_length zeroId_length)) rfl (by decide) ⟨.slice none 0 0,zeroId,[],by rw [hbe] <;> rfl,rfl,zeroId_length,fun _ => ⟨rfl,rfl,rfl⟩,fun h => absurd h (by rw [hbe]; first | decide | exact hne)⟩
    ·
     have hcan : canPut (pathOf (xs.getD y.1 it0)) y.2 = true:=by simpa [pathOf] using hc51
     have hall : ((xs.map pathOf).take y.1).all (fun q => !clash q ((xs.map pathOf).getD y.1 [])) = true:=by rw [hal2,hcan]
     refine K9 (X_block (X9 ?_))
     refine R9 (L9 rfl (Pn9 rfl rfl rfl (run_add _ _ _ _ _ (by omega))) (M9 rfl rfl (N9 ?_)))
     refine X_ren 400 200 rfl ?_
     have htk1 : xs.take (y.1 + 1) = xs.take y.1 ++ [(xs.getD y.1 it0)]:=by rw [List.take_add_one]; simp [List.getElem?_eq_getElem hlt2]
     exact Xr9 (y.1 + 1,T1) ⟨by dsimp only; omega,hg1.trans hyg,by rw [htk1]; exact Filled.snoc _ _ _ _ hyf hcan (hput1 hcan),by rw [← hyt]; exact ((fits_step (k:=y.1) (by omega)).trans (by rw [hall]; rfl)).symm⟩ (by dsimp only; omega) (a9 rfl) (a9 rfl)
   ·
    have hge2 : xs.length ≤ y.1:=by have:=of_decide_eq_false hc37; omega
    have hfits : fits [] (xs.map pathOf) = true:=by rw [← hyt,List.drop_of_length_le (by omega)]; rfl
    have hbe : buildE xs = 0:=by unfold buildE; rw [if_neg (by omega),if_neg (fun h => h hfw0),if_pos hfits]
    have hfil : Filled xs y.2:=by rwa [List.take_of_length_le hge2] at hyf
    have hfit : Fit xs.length (fun v0 x0 => ∀ h,F h → rdB v0 x0 h) y.2:=hfil.fit (fun x hx => ⟨by have:=(hb x hx).1; omega,by have:=(wrongI_zero (hzw x hx)).2.2; omega,fun h hp => hD h hp x hx⟩)
    refine W_exit (X_then_exit (X_then_exit (X_block_exit (X9 ?_))))
    refine Q9 (R9 (Lc9 rfl rfl (by decide) (OpT_makeMapQ (r:=3) (enc:=idV) (ok:=ok32) rfl (fun gm0 => ?_))))
    skip
    refine (L9 rfl (Pu_build (V:=.agg #[.map (some gm0)]) [(0,1)] ([.map none]) rfl rfl (by kernel_rfl) (by kernel_rfl) (.one rfl rfl (by simp [List.length_cons]) rfl (.nil _)) rfl) (Lc9 rfl rfl (by decide) (OpT_box (r:=201) rfl rfl rfl (fun g201 => (G9 rfl rfl (N9 (X9 ?_)))))))
    refine Q9 ?_
    refine W_join [201,3] 4 (bldP g201 []) rfl (by decide) (fun h hs => closeBld (es:=[]) Laid.nil (starL_add (Ps:=[_,_]) (fun p hp => by cases hp) hs)) ?_
    rw [← hyg]
    refine R9 (M9 rfl rfl (M9 rfl rfl (Lc9 rfl rfl (by decide) (Oc9 300 [0,1,101] [4,200] rfl Tryz.call38 rfl rfl rfl (by decide) (by decide) (folder_spec g201 xs.length _ (by omega) y.2 hfit [] _ (fun v0 x0 hq => rs9 0 rfl hq) (ts9 0 rfl hT)) (fun v59 Ps59 hR59 => ?_)))))
    obtain ⟨rfl,hs59,hp59,rfl⟩:=hR59
    skip
    refine (L9 rfl (Pu_build (V:=.agg (treeC (.slice none 0 0) (idT y.2)).toArray) [(0,1),(1,32)] (treeC (.slice none 0 0) zeroId) rfl rfl (by kernel_rfl) (by kernel_rfl) (.many rfl ((bs_length _).trans (idT_length _)) (by simp [treeC,bs_length,zeroId_length]) rfl (.nil _)) (congrArg (fun q : List Value => Value.agg q.toArray) (tree_build (idT_length _)))) (Lc9 rfl rfl (by decide) (OpT_alloc (r:=303) (cs:=(treeC (.slice none 0 0) zeroId)) rfl (zero_run (by kernel_rfl : (Tryz.prog.info? 31).bind (·.zero) = some (.agg (treeC (.slice none 0 0) zeroId).toArray))) rfl (fun g303 => (Lc09 rfl rfl (OpT_storeAll (r:=303) rfl Tryz.sizeOf31 rfl rfl rfl (treeC_length zeroId_length) (treeC_length (idT_length _)) (treeC_one rfl) ?_))))))
    refine (N9 (X9 ?_))
    refine Q9 (Q9 ?_)
    refine W_openBld 300 600 rfl (fun gm es hl => ?_)
    refine W_fact (r:=602) rfl (fun h hp => laid_ok hl hp) (fun hok => ?_)
    have hesl : es.length ≤ 1000000000000:=by have h1:=hl.len; have h2:=hp59.length_eq; have h3:=blocksT_len hfit; have h4:=hfil.cnt_le (b:=900001) (fun x hx => by have h5:=splitN_len x.1; have h6:=(hb x hx).1; unfold pathOf; omega); have h7 : xs.length * 900001 ≤ 20 * 900001:=Nat.mul_le_mul_right _ hn20; simp only [List.nil_append] at h1; omega
    refine R9 (M9 rfl rfl (L9 rfl (Pu_nilCheck rfl rfl) (L9 rfl (F9 0 rfl rfl) (L9 rfl (Pb9 (r:=600) rfl Tryz.isAgg86 rfl rfl rfl) (Lc9 rfl rfl (by decide) (OpT_rangeQ (r:=601) rfl Tryz.underlying86 rfl rfl (fun it1 => (N9 (X9 ?_)))))))))
    refine W_block ?_
    refine W_loop (α:=Value × List LB × List LB × List (List UInt8 × Value)) (fun z => [(2,.pointer (some ⟨g101,0,none⟩)),(13,.pointer (some ⟨g303,0,none⟩)),(65,.pointer (some ⟨it1,0,none⟩))]) (fun z => [(0,F),(1,rowP 59 35 z.1 z.2.1.length (recC bvC ((z.2.1.map lbV).map (·.1)))),(101,blk g101 31 (treeC (.slice none 0 0) zeroId)),(303,blk g303 31 (treeC z.1 (idT y.2))),(601,mapQ idV ok32 gm (entsL es) (some (it1,z.2.2.2,none))),(602,datL es)]) (fun z => z.1.oneCell' = true ∧ (z.2.1 ++ z.2.2.1).Perm es ∧ z.2.2.2.Perm (entsL z.2.2.1)) (fun z => z.2.2.1.length) ((.slice none 0 0,[],es,entsL es)) ⟨rfl,List.Perm.refl _,List.Perm.refl _⟩ (a9 rfl) (a9 rfl) (fun z hz => ?_)
    obtain ⟨hzo,hz1,hz2⟩:=hz
    refine Q9 ?_
    refine R9 (Lc9 rfl rfl (by decide) (OpT_nextQ (r:=601) keyB rfl rfl rfl (fun hnil => ?_) (fun p left hpe hpm => ?_)))
    ·
     rw [hnil] at hz2
     have hl2:=nil_map hz2
     rw [hl2,List.append_nil] at hz1
     refine (L9 rfl (Pe9 rfl rfl rfl) (N9 (X9 ?_)))
     refine Q9 ?_
     refine W_false rfl (rfl) ?_
     refine W_exit (X_then_exit (X_then_exit (X_block_exit (X9 ?_))))
     refine Q9 ?_
     refine Wt9 601 rfl (fun h hp => mapQ_none hp) ?_
     refine Wt9 (P':=rowP 59 35 z.1 ((z.2.1.map lbV).map (·.1)).length (recC bvC ((z.2.1.map lbV).map (·.1)))) 1 rfl (fun h hp => by rw [List.length_map,List.length_map]; exact hp) ?_
     refine R9 (L9 rfl (F9 0 rfl rfl) (L9 rfl (Pb9 (r:=303) rfl Tryz.isAgg27 rfl rfl rfl) (Lc9 rfl rfl (by decide) (Oc9 700 [0,101,303,601,602] [1] rfl Tryz.call39 rfl rfl rfl (by decide) (by decide) (sortB_spec z.1 ((z.2.1.map lbV).map (·.1)) (by rw [List.length_map,List.length_map]; have:=hz1.length_eq; omega) _) (fun v81 Ps81 hR81 => ?_)))))
     obtain ⟨rfl,ys,hys,hsrt,rfl⟩:=hR81
     skip
     refine (N9 (X9 ?_))
     refine Q9 (R9 (L9 rfl (Px9 (r:=303) rfl Tryz.isAgg31 Tryz.sizeOf31 rfl rfl (treeC_length (idT_length _)) (load_all (treeC_length (idT_length _)))) (Lc09 rfl rfl (OpT_storeAll (r:=101) rfl Tryz.sizeOf31 rfl rfl rfl (treeC_length zeroId_length) (treeC_length (idT_length _)) (treeC_one hzo) ?_))))
     refine (G9 rfl rfl (N9 (X9 ?_)))
     refine W_ret ?_
     obtain ⟨zs,hzs,htree,hclose⟩:=tree_done hl hok hz1 hp59 hys hsrt
     refine X_join [700,602] 1 (treeP z.1 (zs.map toTB)) rfl (by decide) (fun h hs => hclose _ h hs) ?_
     exact Xq9 [1] (Ps:=[_]) (resC2 (r:=101) Tryz.results16 rfl rfl Tryz.isAgg31 Tryz.sizeOf31 rfl (treeC_length (idT_length _))) rfl (by decide) ⟨z.1,idT y.2,zs.map toTB,by rw [hbe] <;> rfl,rfl,idT_length _,fun h => absurd hbe h,fun _ => ⟨y.2,hfil,rfl,htree⟩⟩
    ·
     obtain ⟨b,l3,rfl,hb2,hb3⟩:=pick_map hz2 hpm
     have hbm : b ∈ es:=hz1.mem_iff.1 (List.mem_append.2 (.inr (hb2.mem_iff.2 (by simp))))
     have hbo:=hok b hbm
     have hzlen : z.2.1.length ≤ 1000000000000:=by have:=hz1.length_eq; rw [List.length_append] at this; omega
     refine (L9 rfl (Pe9 rfl rfl rfl) (N9 (X9 ?_)))
     refine Q9 ?_
     refine W_true rfl (rfl) ?_
     refine K9 (X9 ?_)
     refine W_block ?_
     refine Q9 (R9 (L9 rfl (Pu_entryQ (r:=601) rfl rfl rfl) (L9 rfl (Pe9 rfl rfl rfl) (L9 rfl (Pe9 rfl rfl rfl) (Lc9 rfl rfl (by decide) (OpT_alloc (r:=651) (cs:=(bs zeroId)) rfl (zero_run (by kernel_rfl : (Tryz.prog.info? 29).bind (·.zero) = some (.agg (bs zeroId).toArray))) rfl (fun g651 => (Lc09 rfl rfl (OpT_storeAll (r:=651) rfl Tryz.sizeOf29 rfl rfl rfl ((bs_length _).trans zeroId_length) ((bs_length _).trans hbo.1) (bs_one _) ?_)))))))))
     refine (G9 rfl rfl (N9 (X9 ?_)))
     refine R9 (L9 rfl (F9 0 rfl rfl) (L9 rfl (Pb9 (r:=303) rfl Tryz.isAgg27 rfl rfl rfl) (L9 rfl (Px9 (r:=651) rfl Tryz.isAgg29 Tryz.sizeOf29 rfl rfl ((bs_length _).trans hbo.1) (load_all ((bs_length _).trans hbo.1))) (M9 rfl rfl (L9 rfl (Pu_build (V:=.agg (bvC (lbV b).1).toArray) [(0,32),(32,1),(33,1),(34,1)] (bkC zeroId (.slice none 0 0) 0 0) rfl rfl (by kernel_rfl) (by kernel_rfl) (.many rfl ((bs_length _).trans hbo.1) (by rw [bkC_length zeroId_length]; decide) rfl (.one rfl hbo.2 (by rw [over_length,bkC_length zeroId_length] <;> first | decide | (rw [bs_length,hbo.1,bkC_length zeroId_length]; decide)) rfl (.nil _))) (congrArg (fun q : List Value => Value.agg q.toArray) ((bk_build hbo.1).trans (lbV_c hbo).symm))) (Lc9 rfl rfl (by decide) (OpT_buildRows (r:=652) [bvC (lbV b).1] rfl rfl Tryz.runUnderlying27 Tryz.sizeOf59 Tryz.zeroValue59 rfl (by decide) rfl (by decide) (by intro r hr; simp at hr; rw [hr]; exact bvC_length _) rfl (fun v76 => (Lc9 rfl rfl (by decide) (Oa9 (r:=1) (r2:=652) rfl Tryz.underlying27 TI.hi59 TI.hz59 TI.hs59 TI.hby59 TI.hzs59 (by decide) rfl rfl rfl rfl (fun _ h => rp9 h) (by intro u hu; simp at hu; exact bvC_one _ u hu) (by unfold maxLen; omega) (by omega) (fun v77 => ?_)))))))))))
     refine WL_fact (r:=1) rfl (fun h hp => rd_one (rp9 hp)) (fun ho77 => ?_)
     refine (L9 rfl (F9 0 rfl rfl) (Lc09 rfl rfl (OpT_storeB1 (r:=303) rfl Tryz.sizeOf27 rfl rfl rfl ho77 (by rw [treeC_length (idT_length _)]; decide) (show _ = treeC v77 (idT y.2) from rfl) ?_)))
     refine (N9 (X_block ?_))
     refine X_turn 601 rfl (fun h hp => mapQ_uncur hp) ?_
     refine X_turn (P':=rowP 59 35 v77 (z.2.1 ++ [b]).length (recC bvC (((z.2.1 ++ [b]).map lbV).map (·.1)))) 1 rfl (fun h hp => row_lb hp) ?_
     exact Xr9 (v77,z.2.1 ++ [b],l3,left) ⟨ho77,by refine List.Perm.trans ?_ hz1; rw [List.append_assoc]; exact List.Perm.append_left _ hb2.symm,hb3⟩ (by have:=hb2.length_eq; simp at this; dsimp only; omega) (a9 rfl) (a9 rfl)
open Go.RowKit
theorem mapQ_le {κ : Type} [DecidableEq κ] {enc : κ → Value} {ok : κ → Prop} {g : Nat} {es : List (κ × Value)} {h h' : Hlt} (hp : mapQ enc ok g es none h') (hle : ∀ q o,h' q = some o → h q = some o) : mapQ enc ok g es none h:=by
  obtain ⟨h1,a,clk,h2,h3,h4,_⟩:=hp
  exact ⟨h1,a,clk,hle _ _ h2,h3,h4,trivial⟩
theorem mapQ_star {κ : Type} [DecidableEq κ] {enc : κ → Value} {ok : κ → Prop} {g : Nat} {es : List (κ × Value)} {Js : List HP} {P : HP} (k : Nat) (hk : Js[k]? = some P) (hp : ∀ h,P h → mapQ enc ok g es none h) : ∀ h,starL Js h → mapQ enc ok g es none h:=fun h ⟨hs,h1,_,h3⟩ => mapQ_le (hp _ (h1 k P hk)) (fun q o hq => h3 k q o hq)
section
variable {P : Program} {E : Env} {n : Nat} {K : Slots} {L : Res} {o : Oper} {C : Value → Res → Prop} {κ : Type} [DecidableEq κ] {kt mt et : TypeId} {enc : κ → Value} {ok : κ → Prop}
theorem Pu_lookupOkF {r g : Nat} {x y : Operand} {k : κ} {es : List (κ × Value)} {Pr : HP} {z : Value} (T : KeyT P kt enc ok) (ho : o.op = .lookup mt x y true) (hm : P.underlying mt = some (.map kt et)) (hz : ∀ w,(zeroValue et).run P w = .ok z w)
    (hx : evK K x = some (.map (some g))) (hy : evK K y = some (enc k)) (hl : ok k) (hr : look L r = some Pr) (hM : ∀ h,Pr h → mapQ enc ok g es none h) : Pure P E n o K L (.tuple #[(lookQ k es).getD z,.bool (lookQ k es).isSome]):=fun a w hA hS => by
  obtain ⟨h,q1,q2⟩:=hS.read hr
  have:=run_lookupQ T hm hz (hM h q1) q2 k hl true
  simp only [if_true] at this
  simp only [execOp,ho,hA.eval hx,hA.eval hy,Sem.run_bind,this]
  rfl
end
theorem entsL_fil (es : List LB) : entsL es = filM es:=rfl
abbrev VW:=List UInt8 → Option (List UInt8)
abbrev Nd:=Int × Int × Int × List UInt8
def nd0 : Nd:=(0,0,0,zeroId)
def ndC (n : Nd) : List Value:=nodeC n.1 n.2.1 n.2.2.1 n.2.2.2
def NdOk (n : Nd) : Prop:=(n.1 = 1 ∨ n.1 = 2) ∧ 0 ≤ n.2.1 ∧ n.2.1 ≤ 1048576 ∧ n.2.2.1 = (lev n.2.1 : Int) ∧ n.2.2.2.length = 32
theorem parseI_nd {b : List UInt8} (h : (parseI b).2 = 0) : NdOk (parseI b).1:=by
  have ht:=parseI_top b
  unfold parseI at h ht ⊢
  split at h
  · cases h
  · split at h
    · cases h
    · split at h
      · cases h
      · rename_i h1 h2 h3
        rw [if_neg h1,if_neg h2,if_neg h3] at ht ⊢
        have hw : wrongN (parsed b).1 (parsed b).2.1 (parsed b).2.2.1 (parsed b).2.2.2 = 0:=by
          cases hh : decide (wrongN (parsed b).1 (parsed b).2.1 (parsed b).2.2.1 (parsed b).2.2.2 = 0) with
          | true => exact of_decide_eq_true hh
          | false => exact absurd (.inr (of_decide_eq_false hh)) h2
        obtain ⟨k1,k2,k3,k4⟩:=wrong_zero hw
        exact ⟨k1,k2,k3,k4,ht⟩
theorem ndC_length {n : Nd} (h : n.2.2.2.length = 32) : (ndC n).length = 35:=nodeC_length h
def vw (ls : List LB) : VW:=fun k => (lookA k ls).map (·.2)
def inodeV (V : VW) (id : List UInt8) : Nd × Int:=match V id with
  | none => (nd0,18)
  | some b => parseI b
theorem inodeV_top (V : VW) (id : List UInt8) : (inodeV V id).1.2.2.2.length = 32:=by
  unfold inodeV
  split
  · exact zeroId_length
  · exact parseI_top _
theorem inodeV_ok {V : VW} {id : List UInt8} (h : (inodeV V id).2 = 0) : NdOk (inodeV V id).1:=by
  unfold inodeV at h ⊢
  split at h
  · cases h
  · rename_i b hb
    exact parseI_nd h
def rowA (V : VW) (k : Nat) : Nat → List UInt8 → List UInt8 × Nat
  | 0,id => (id,0)
  | l + 1,id => match V id with
    | none => ([],18)
    | some b => if parseNE b ≠ 0 ∨ (parseNL b).length ≤ k / 8 ^ l % 8 then ([],11) else rowA V k l ((parseNL b).getD (k / 8 ^ l % 8) [])
def rowE2 (V : VW) (size k : Nat) (p : List UInt8 × Nat) : List UInt8 × Nat:=if p.2 ≠ 0 then ([],p.2) else match V p.1 with
  | none => ([],18)
  | some b => if b.length ≠ 1 + min 64 (size - k * 64) ∨ at0 b 0 ≠ 100 then ([],11) else (b.drop 1,0)
def rowV (V : VW) (size lv : Nat) (top : List UInt8) (k : Nat) : List UInt8 × Nat:=rowE2 V size k (rowA V k lv top)
theorem rowV_len {V : VW} {size lv k : Nat} {top : List UInt8} (h : (rowV V size lv top k).2 = 0) : (rowV V size lv top k).1.length = min 64 (size - k * 64):=by
  unfold rowV rowE2 at h ⊢
  split at h
  · omega
  · rename_i h1
    rw [if_neg h1]
    split at h
    · cases h
    · rename_i b hb
      split at h
      · cases h
      · rename_i h2
        rw [if_neg h2]
        show (b.drop 1).length = _
        rw [List.length_drop]
        have : b.length = 1 + min 64 (size - k * 64):=by
          by_cases hc : b.length = 1 + min 64 (size - k * 64)
          · exact hc
          · exact absurd (.inl hc) h2
        omega
def bytesA (V : VW) (size lv : Nat) (top : List UInt8) (frm to : Nat) : Nat → Nat → List UInt8 → List UInt8 × Nat
  | 0,_,acc => (acc,0)
  | f + 1,k,acc => if k * 64 < to then (if (rowV V size lv top k).2 ≠ 0 then ([],(rowV V size lv top k).2) else bytesA V size lv top frm to f (k + 1) (acc ++ ((rowV V size lv top k).1.take (min (to - k * 64) (rowV V size lv top k).1.length)).drop (frm - k * 64))) else (acc,0)
theorem bytesA_end {V : VW} {size lv frm to f k : Nat} {top acc : List UInt8} (h : ¬ k * 64 < to) : bytesA V size lv top frm to f k acc = (acc,0):=by
  cases f with
  | zero => rfl
  | succ f => rw [bytesA,if_neg h]
theorem bytesA_bad {V : VW} {size lv frm to f k : Nat} {top acc : List UInt8} (h : k * 64 < to) (he : (rowV V size lv top k).2 ≠ 0) : bytesA V size lv top frm to (f + 1) k acc = ([],(rowV V size lv top k).2):=by rw [bytesA,if_pos h,if_pos he]
theorem bytesA_next {V : VW} {size lv frm to f k : Nat} {top acc : List UInt8} (h : k * 64 < to) (he : (rowV V size lv top k).2 = 0) : bytesA V size lv top frm to (f + 1) k acc = bytesA V size lv top frm to f (k + 1) (acc ++ ((rowV V size lv top k).1.take (min (to - k * 64) (rowV V size lv top k).1.length)).drop (frm - k * 64)):=by rw [bytesA,if_pos h,if_neg (fun h => h he)]
def bytesV (V : VW) (n : Nd) (frm to : Nat) : List UInt8 × Nat:=if frm < to then bytesA V n.2.1.toNat n.2.2.1.toNat n.2.2.2 frm to (to + 1) (frm / 64) [] else ([],0)
def dirV (V : VW) (n : Nd) : List Ent × Nat:=if n.1 ≠ 2 then ([],3) else if (bytesV V n 0 n.2.1.toNat).2 ≠ 0 then ([],(bytesV V n 0 n.2.1.toNat).2) else par (bytesV V n 0 n.2.1.toNat).1 []
def findV (V : VW) : List (List UInt8) → Nd → Nd × Int
  | [],n => (n,0)
  | m :: l,n => if (dirV V n).2 ≠ 0 then (nd0,((dirV V n).2 : Int)) else match (dirV V n).1.find? (fun x => decide (x.1 = m)) with
    | none => (nd0,2)
    | some x => if (inodeV V x.2).2 ≠ 0 then (nd0,(inodeV V x.2).2) else findV V l (inodeV V x.2).1
def pathV (V : VW) (top path : List UInt8) : Nd × Int:=if (splitN path).2 ≠ 0 then (nd0,((splitN path).2 : Int)) else if (inodeV V top).2 ≠ 0 then (nd0,(inodeV V top).2) else findV V (splitN path).1 (inodeV V top).1
def listV (V : VW) (top path : List UInt8) : List (List UInt8) × Int:=if (pathV V top path).2 ≠ 0 then ([],(pathV V top path).2) else if (dirV V (pathV V top path).1).2 ≠ 0 then ([],((dirV V (pathV V top path).1).2 : Int)) else (nms (dirV V (pathV V top path).1).1,0)
def readV (V : VW) (top path : List UInt8) (off n : Int) : List UInt8 × Int:=if (pathV V top path).2 ≠ 0 then ([],(pathV V top path).2) else if (pathV V top path).1.1 ≠ 1 then ([],3) else if off < 0 ∨ n < 0 then ([],1) else if (pathV V top path).1.2.1 ≤ off then ([],0)
  else ((bytesV V (pathV V top path).1 off.toNat (off.toNat + min n.toNat ((pathV V top path).1.2.1.toNat - off.toNat))).1,((bytesV V (pathV V top path).1 off.toNat (off.toNat + min n.toNat ((pathV V top path).1.2.1.toNat - off.toNat))).2 : Int))
theorem findV_ok {V : VW} : ∀ (l : List (List UInt8)) (n : Nd),NdOk n → (findV V l n).2 = 0 → NdOk (findV V l n).1
  | [],n,hn,_ => hn
  | m :: l,n,hn,h => by
    rw [findV] at h ⊢
    split at h
    · rename_i h1; simp only at h; omega
    · rename_i h1
      rw [if_neg h1]
      split at h
      · cases h
      · rename_i x hx
        split at h
        · rename_i h2; exact absurd h h2
        · rename_i h2
          rw [if_neg h2]
          have h3 : (inodeV V x.2).2 = 0:=by
            cases hh : decide ((inodeV V x.2).2 = 0) with
            | true => exact of_decide_eq_true hh
            | false => exact absurd (of_decide_eq_false hh) h2
          exact findV_ok l _ (inodeV_ok h3) h
theorem findV_top {V : VW} : ∀ (l : List (List UInt8)) (n : Nd),n.2.2.2.length = 32 → (findV V l n).1.2.2.2.length = 32
  | [],n,hn => hn
  | m :: l,n,hn => by
    rw [findV]
    split
    · exact zeroId_length
    · split
      · exact zeroId_length
      · split
        · exact zeroId_length
        · exact findV_top l _ (inodeV_top _ _)
theorem pathV_top (V : VW) (top path : List UInt8) : (pathV V top path).1.2.2.2.length = 32:=by
  unfold pathV
  split
  · exact zeroId_length
  · split
    · exact zeroId_length
    · exact findV_top _ _ (inodeV_top _ _)
theorem pathV_ok {V : VW} {top path : List UInt8} (h : (pathV V top path).2 = 0) : NdOk (pathV V top path).1:=by
  unfold pathV at h ⊢
  split at h
  · rename_i h1; simp only at h; omega
  · rename_i h1
    rw [if_neg h1]
    split at h
    · rename_i h2; exact absurd h h2
    · rename_i h2
      rw [if_neg h2]
      have h3 : (inodeV V top).2 = 0:=by
        cases hh : decide ((inodeV V top).2 = 0) with
        | true => exact of_decide_eq_true hh
        | false => exact absurd (of_decide_eq_false hh) h2
      exact findV_ok _ _ (inodeV_ok h3) h
def viewT (l : List TB) : VW:=fun k => (l.find? fun b => decide (b.1 = k) && decide (sha b.2.1 = k)).map (·.2.1)
open Go.RowKit
set_option maxRecDepth 8000

theorem numbered_spec (v : Value) (l : List UInt8) (F : HP) (hF : ∀ h,F h → rdB v l h) (hl : l.length ≤ 7) : CallsS Tryz.prog 120 #[v] F [] (fun r Ps => r = .int .i64 (val l l.length : Int) ∧ Ps = []):=by
 refine callsS_enter Tryz.func120 rfl Tryz.ntmps120 (by simp) (fun E => ?_)
 refine Q9 (R9 (G9 rfl rfl (N9 (X9 (Q9 (R9 (G9 rfl rfl (N9 (X9 (Q9 (Q9 (R9 (M9 rfl rfl (L9 rfl (Pl9 (r:=0) rfl Tryz.runUnderlying36 rfl rfl hF) (M9 rfl rfl (N9 (X9 ?_)))))))))))))))))
 refine W_block ?_
 refine W_loop (α:=Nat) (fun k => [(3,.int .i64 (val l k : Int)),(6,v),(7,.int .i64 (l.length : Int)),(8,.int .i64 (k : Int))]) (fun k => [(0,F)]) (fun k => k ≤ l.length) (fun k => l.length - k) (0) (by omega) (a9 rfl) ⟨rfl,trivial⟩ (fun x hx => ?_)
 have hv:=val_small l (k:=x) (by omega)
 refine Q9 (R9 (L9 rfl (Pn9 rfl rfl rfl (run_lss _ _ _ _ _ _)) (N9 (X9 (Q9 ?_)))))
 refine C9 rfl (fun hc9 => ?_) (fun hc9 => ?_)
 ·
  have hv6:=val_lt6 l (k:=x) (by have:=of_decide_eq_true hc9; omega)
  refine K9 (X9 ?_)
  refine Q9 ?_
  refine W_block ?_
  refine Q9 (R9 (L9 rfl (Pu_idxS1 (r:=0) rfl Tryz.runUnderlying36 Tryz.sizeOf5 rfl rfl rfl hF (by have:=of_decide_eq_true hc9; omega)) (L9 rfl (Py9 (r:=0) rfl Tryz.isAgg5 rfl rfl hF (bs_at1 (k:=x) (by have:=of_decide_eq_true hc9; omega))) (G9 rfl rfl (N9 (X9 (R9 (M9 rfl rfl (L9 rfl (Pn9 rfl rfl rfl (run_shl _ 8 _ _ _ (by omega) (by omega))) (M9 rfl rfl (L9 rfl (Pu_conv rfl rfl (conv_u8 _ Tryz.runUnderlying5 Tryz.runUnderlying3)) (L9 rfl (Pn9 rfl rfl rfl (run_orJoin _ _ 8 _ _ _ (by omega) (by have:=(at0 l x).toNat_lt; omega) (by omega))) (G9 rfl rfl (N9 (X_block (X9 (R9 (L9 rfl (Pn9 rfl rfl rfl (run_add _ _ _ _ _ (by omega))) (M9 rfl rfl (N9 ?_))))))))))))))))))))
  exact Xr9 (x + 1) (by have:=of_decide_eq_true hc9; omega) (by have:=of_decide_eq_true hc9; omega) (a9 rfl) ⟨rfl,trivial⟩
 ·
  obtain rfl : x = l.length:=by have:=of_decide_eq_false hc9; omega
  refine W_exit (X_then_exit (X_then_exit (X_block_exit (X9 ?_))))
  refine Q9 (R9 (M9 rfl rfl (G9 rfl rfl (N9 (X9 ?_)))))
  refine W_ret ?_
  exact Xq9 [] (Ps:=[]) (res1 Tryz.results120 rfl) rfl (by decide) ⟨rfl,rfl⟩
theorem numbered_spec2 (v : Value) (l : List UInt8) (n : Nat) (F : HP) (hF : ∀ h,F h → rdB v (l.take n) h) (hn : n ≤ l.length) (hl : n ≤ 7) : CallsS Tryz.prog 120 #[v] F [] (fun r Ps => r = .int .i64 (val l n : Int) ∧ Ps = []) :=
  (numbered_spec v (l.take n) F hF (by simp; omega)).imp fun r Ps ⟨h1,h2⟩ => ⟨by rw [h1,List.length_take,Nat.min_eq_left hn,val_take l n n (Nat.le_refl _)],h2⟩
theorem parseInode_spec (v : Value) (l : List UInt8) (F : HP) (hF : ∀ h,F h → rdB v l h) : CallsS Tryz.prog 85 #[v] F [] (fun r Ps => r = .tuple #[nodeV (parseI l).1.1 (parseI l).1.2.1 (parseI l).1.2.2.1 (parseI l).1.2.2.2,.int .i64 (parseI l).2] ∧ Ps = []):=by
 refine callsS_enter Tryz.func85 rfl Tryz.ntmps85 (by simp) (fun E => ?_)
 refine Q9 ?_
 refine J9 [(0,_)] [(0,_)] ?_ ⟨rfl,trivial⟩ ⟨rfl,trivial⟩
 refine R9 (Lc9 rfl rfl (by decide) (OpT_alloc (r:=101) rfl (zero_run (by kernel_rfl : (Tryz.prog.info? 42).bind (·.zero) = some (.agg (nodeC 0 0 0 zeroId).toArray))) rfl (fun g101 => (G9 rfl rfl (N9 (X9 (Q9 (Q9 ?_))))))))
 refine J9 [(0,_),(2,_),(3,_)] [(0,_),(101,_)] ?_ ⟨rfl,rfl,rfl,trivial⟩ ⟨rfl,rfl,trivial⟩
 refine R9 (M9 rfl rfl (L9 rfl (Pl9 (r:=0) rfl Tryz.runUnderlying36 rfl rfl hF) (L9 rfl (Pn9 rfl rfl rfl (run_lss _ _ _ _ _ _)) (N9 (X9 ?_)))))
 refine C9 rfl (fun hc7 => ?_) (fun hc7 => ?_)
 ·
  have h39:=of_decide_eq_true hc7
  refine Q9 ?_
  refine J9 [(0,_),(2,_),(3,_),(7,_)] [(0,_),(101,_)] ?_ ⟨rfl,rfl,rfl,rfl,trivial⟩ ⟨rfl,rfl,trivial⟩
  refine R9 (L9 rfl (Pu_build (V:=_) [(0,1),(1,1),(2,1),(3,32)] (nodeC 0 0 0 zeroId) rfl rfl (by kernel_rfl) (by kernel_rfl) (.nil _) rfl) (Lc09 rfl rfl (OpT_storeAll (r:=101) rfl Tryz.sizeOf42 rfl rfl rfl (by simp [nodeC,bs_length,zeroId_length, *]) (by simp [nodeC,bs_length,zeroId_length, *]) (one_node _ _ _ _) ?_)))
  refine (G9 rfl rfl (N9 (X9 ?_)))
  refine W_ret (X_then_ret ?_)
  exact Xq9 [] (Ps:=[]) (resC2 (r:=101) Tryz.results85 rfl rfl Tryz.isAgg42 Tryz.sizeOf42 rfl (nodeC_length zeroId_length)) rfl (by decide) ⟨by rw [parseI_cut h39]; rfl,rfl⟩
 ·
  have h39 : 39 ≤ l.length:=by have:=of_decide_eq_false hc7; omega
  have htop:=parsed_top h39
  refine K9 (X9 ?_)
  refine Q9 ?_
  refine J9 [(0,_),(2,_),(3,_),(7,_)] [(0,_),(101,_)] ?_ ⟨rfl,rfl,rfl,rfl,trivial⟩ ⟨rfl,rfl,trivial⟩
  refine W_draw (N:=14) (by kernel_rfl) rfl [(0,_),(101,_)] ⟨rfl,rfl,trivial⟩ ?_
  refine (T9 0 rfl rfl (Pm9 rfl rfl) (T9 1 rfl rfl (Pu_idxS1 (r:=0) rfl Tryz.runUnderlying36 Tryz.sizeOf5 rfl rfl rfl hF (by omega)) (T9 2 rfl rfl (Py9 (r:=0) rfl Tryz.isAgg5 rfl rfl hF (bs_at1 (k:=1) (by omega))) (T9 3 rfl rfl (Pu_conv rfl rfl (conv_u8 _ Tryz.runUnderlying5 Tryz.runUnderlying3)) (T9 4 rfl rfl (Pm9 rfl rfl) (T9 5 rfl rfl (Pu_slice (r:=0) (a:=2) (b:=6) rfl Tryz.runUnderlying36 Tryz.sizeOf5 rfl rfl hF (.inr ⟨_,_,_,rfl,rfl,rfl⟩) (.inr ⟨_,_,_,rfl,rfl,rfl⟩) (by omega) (by omega)) (T9 7 rfl rfl (Pm9 rfl rfl) (T9 8 rfl rfl (Pu_idxS1 (r:=0) rfl Tryz.runUnderlying36 Tryz.sizeOf5 rfl rfl rfl hF (by omega)) (T9 9 rfl rfl (Py9 (r:=0) rfl Tryz.isAgg5 rfl rfl hF (bs_at1 (k:=6) (by omega))) (T9 10 rfl rfl (Pu_conv rfl rfl (conv_u8 _ Tryz.runUnderlying5 Tryz.runUnderlying3)) (Y9 [6,12] ?_)))))))))))
  refine Z9 rfl rfl (Oc9 200 [0,101] [] rfl Tryz.call120 rfl rfl rfl (by decide) (by decide) (numbered_spec2 _ (l.drop 2) 4 _ (rs9 0 rfl (fun h hp => rdB_sub (hF h hp) (by omega) (by omega))) (by simp; omega) (by omega)) (fun v15 Ps15 hR15 => ?_)) ?_
  ·
   obtain ⟨rfl,rfl⟩:=hR15
   refine ⟨⟨rfl,rfl,trivial⟩,?_⟩
   refine (T9 11 rfl rfl (Pu_build (V:=nodeV (at0 l 1).toNat (val (l.drop 2) 4) (at0 l 6).toNat zeroId) [(0,1),(1,1),(2,1),(3,32)] (nodeC 0 0 0 zeroId) rfl rfl (by kernel_rfl) (by kernel_rfl) (.one rfl rfl (by simp [nodeC,bs_length,zeroId_length]) rfl (.one rfl rfl (by simp [nodeC,bs_length,zeroId_length]) rfl (.one rfl rfl (by simp [nodeC,bs_length,zeroId_length]) rfl (.nil _)))) rfl) (Y9 [12] ?_))
   refine Z9 rfl rfl (OpT_alloc (r:=201) rfl (zero_run (by kernel_rfl : (Tryz.prog.info? 42).bind (·.zero) = some (.agg (nodeC 0 0 0 zeroId).toArray))) rfl (fun g201 => ⟨⟨rfl,rfl,trivial⟩,?_⟩)) ?_
   ·
    refine (Y9 [13] ?_)
    refine Ac09 rfl rfl rfl (OpT_storeAll (r:=201) rfl Tryz.sizeOf42 rfl rfl rfl (by simp [nodeC,bs_length,zeroId_length, *]) (by simp [nodeC,bs_length,zeroId_length, *]) (one_node _ _ _ _) ?_) ?_
    ·
     refine ⟨⟨rfl,rfl,trivial⟩,?_⟩
     refine (Ad9 (by kernel_rfl) (X9 ?_))
     refine Q9 ?_
     refine J9 [(0,_),(2,_),(3,_),(4,_),(7,_)] [(0,_),(101,_),(201,_)] ?_ ⟨rfl,rfl,rfl,rfl,rfl,trivial⟩ ⟨rfl,rfl,rfl,trivial⟩
     refine W_draw (N:=5) (by kernel_rfl) rfl [(0,_),(101,_)] ⟨rfl,rfl,trivial⟩ ?_
     refine (T9 0 rfl rfl (F9 3 rfl rfl) (T9 1 rfl rfl (Pu_sliceArr rfl Tryz.runUnderlying29 Tryz.sizeOf5 rfl) (T9 2 rfl rfl (Pm9 rfl rfl) (T9 3 rfl rfl (Pu_slice (r:=0) (a:=7) (b:=39) rfl Tryz.runUnderlying36 Tryz.sizeOf5 rfl rfl hF (.inr ⟨_,_,_,rfl,rfl,rfl⟩) (.inr ⟨_,_,_,rfl,rfl,rfl⟩) (by omega) (by omega)) (Y9 [4] ?_)))))
     refine Z9 rfl rfl (OpT_copyB (r:=201) (r2:=0) rfl Tryz.underlying36 TI.hsm5 rfl rfl rfl rfl (fun h hp => rdB_sub (hF h hp) (by omega) (by omega)) (bs_one _) (by simp [nodeC,bs_length,zeroId_length]; omega) (node_copy zeroId_length htop) ?_) ?_
     ·
      refine ⟨⟨rfl,rfl,trivial⟩,?_⟩
      refine (Ad9 (by kernel_rfl) (X9 ?_))
      refine Q9 ?_
      refine W_block ?_
      refine Q9 ?_
      refine J9 [(0,_),(2,_),(3,_),(4,_),(7,_)] [(0,_),(101,_),(201,_)] ?_ ⟨rfl,rfl,rfl,rfl,rfl,trivial⟩ ⟨rfl,rfl,rfl,trivial⟩
      refine R9 (M9 rfl rfl (L9 rfl (Pu_idxS1 (r:=0) rfl Tryz.runUnderlying36 Tryz.sizeOf5 rfl rfl rfl hF (by omega)) (L9 rfl (Py9 (r:=0) rfl Tryz.isAgg5 rfl rfl hF (bs_at1 (k:=0) (by omega))) (L9 rfl (Pn9 rfl rfl rfl (run_neq _ _ _ _ _ _)) (M9 rfl rfl (Lg9 rfl rfl rfl rfl (by decide) (fun hb => (Px9 (r:=201) rfl Tryz.isAgg42 Tryz.sizeOf42 rfl rfl (nodeC_length htop) (load_all (nodeC_length htop)))) (WL_guard (V:=.int .i64 (wrongN (parsed l).1 (parsed l).2.1 (parsed l).2.2.1 (parsed l).2.2.2)) rfl rfl rfl rfl (by decide) (fun hb => (Oc9 300 [0,101,201] [] rfl Tryz.call121 (evL_cons (ev_gv rfl hb) evL_nil) rfl rfl (by decide) (by decide) (wrong_spec _ _ _ _ htop _) (fun v33 Ps33 hR33 => ⟨hR33.1,fun w hw => by rw [hR33.2] at hw; exact hw.sub (AllIn.look ⟨rfl,rfl,rfl,trivial⟩)⟩))) ?_)))))))
      refine (Lg9 rfl rfl rfl rfl (by decide) (fun hb => (Pn9 rfl (ev_gv rfl hb) rfl (run_neq _ _ _ _ _ _))) (L9 rfl (Pu_or rfl rfl rfl) (G9 rfl rfl (N9 (X9 ?_)))))
      refine C9 rfl (fun hc26 => ?_) (fun hc26 => ?_)
      ·
       refine Q9 ?_
       refine J9 [(0,_),(2,_),(3,_),(4,_),(7,_),(26,_)] [(0,_),(101,_),(201,_)] ?_ ⟨rfl,rfl,rfl,rfl,rfl,rfl,trivial⟩ ⟨rfl,rfl,rfl,trivial⟩
       refine R9 (L9 rfl (Pu_build (V:=_) [(0,1),(1,1),(2,1),(3,32)] (nodeC 0 0 0 zeroId) rfl rfl (by kernel_rfl) (by kernel_rfl) (.nil _) rfl) (Lc09 rfl rfl (OpT_storeAll (r:=101) rfl Tryz.sizeOf42 rfl rfl rfl (by simp [nodeC,bs_length,zeroId_length, *]) (by simp [nodeC,bs_length,zeroId_length, *]) (one_node _ _ _ _) ?_)))
       refine (G9 rfl rfl (N9 (X9 ?_)))
       refine W_ret (X_block_ret (X_then_ret ?_))
       exact Xq9 [] (Ps:=[]) (resC2 (r:=101) Tryz.results85 rfl rfl Tryz.isAgg42 Tryz.sizeOf42 rfl (nodeC_length zeroId_length)) rfl (by decide) ⟨by rw [parseI_bad h39 hc26]; rfl,rfl⟩
      ·
       refine Q9 ?_
       refine J9 [(0,_),(2,_),(3,_),(4,_),(7,_),(26,_)] [(0,_),(101,_),(201,_)] ?_ ⟨rfl,rfl,rfl,rfl,rfl,rfl,trivial⟩ ⟨rfl,rfl,rfl,trivial⟩
       refine R9 (M9 rfl rfl (L9 rfl (Pl9 (r:=0) rfl Tryz.runUnderlying36 rfl rfl hF) (L9 rfl (Pn9 rfl rfl rfl (run_gtr _ _ _ _ _ _)) (G9 rfl rfl (N9 (X9 ?_))))))
       refine C9 rfl (fun hc37 => ?_) (fun hc37 => ?_)
       ·
        refine Q9 ?_
        refine J9 [(0,_),(2,_),(3,_),(4,_),(7,_),(26,_),(37,_)] [(0,_),(101,_),(201,_)] ?_ ⟨rfl,rfl,rfl,rfl,rfl,rfl,rfl,trivial⟩ ⟨rfl,rfl,rfl,trivial⟩
        refine R9 (L9 rfl (Pu_build (V:=_) [(0,1),(1,1),(2,1),(3,32)] (nodeC 0 0 0 zeroId) rfl rfl (by kernel_rfl) (by kernel_rfl) (.nil _) rfl) (Lc09 rfl rfl (OpT_storeAll (r:=101) rfl Tryz.sizeOf42 rfl rfl rfl (by simp [nodeC,bs_length,zeroId_length, *]) (by simp [nodeC,bs_length,zeroId_length, *]) (one_node _ _ _ _) ?_)))
        refine (G9 rfl rfl (N9 (X9 ?_)))
        refine W_ret (X_block_ret (X_then_ret ?_))
        exact Xq9 [] (Ps:=[]) (resC2 (r:=101) Tryz.results85 rfl rfl Tryz.isAgg42 Tryz.sizeOf42 rfl (nodeC_length zeroId_length)) rfl (by decide) ⟨by rw [parseI_more h39 hc26 hc37]; rfl,rfl⟩
       ·
        refine K9 (X_block (X9 ?_))
        refine Q9 ?_
        refine J9 [(0,_),(2,_),(3,_),(4,_),(7,_),(26,_),(37,_)] [(0,_),(101,_),(201,_)] ?_ ⟨rfl,rfl,rfl,rfl,rfl,rfl,rfl,trivial⟩ ⟨rfl,rfl,rfl,trivial⟩
        refine R9 (L9 rfl (Px9 (r:=201) rfl Tryz.isAgg42 Tryz.sizeOf42 rfl rfl (nodeC_length htop) (load_all (nodeC_length htop))) (Lc09 rfl rfl (OpT_storeAll (r:=101) rfl Tryz.sizeOf42 rfl rfl rfl rfl (nodeC_length htop) (one_node _ _ _ _) ?_)))
        refine (G9 rfl rfl (N9 (X9 ?_)))
        refine W_ret ?_
        exact Xq9 [] (Ps:=[]) (resC2 (r:=101) Tryz.results85 rfl rfl Tryz.isAgg42 Tryz.sizeOf42 rfl (nodeC_length htop)) rfl (by decide) ⟨by rw [parseI_ok h39 hc26 hc37]; rfl,rfl⟩
     exact An9
    exact An9
   exact An9
  refine Z9 rfl rfl (OpT_alloc (r:=102) rfl (zero_run (by kernel_rfl : (Tryz.prog.info? 42).bind (·.zero) = some (.agg (nodeC 0 0 0 zeroId).toArray))) rfl (fun g102 => ⟨⟨rfl,rfl,trivial⟩,?_⟩)) ?_
  ·
   refine (Y9 [6] ?_)
   refine Z9 rfl rfl (Oc9 200 [0,101,102] [] rfl Tryz.call120 rfl rfl rfl (by decide) (by decide) (numbered_spec2 _ (l.drop 2) 4 _ (rs9 0 rfl (fun h hp => rdB_sub (hF h hp) (by omega) (by omega))) (by simp; omega) (by omega)) (fun v15 Ps15 hR15 => ?_)) ?_
   ·
    obtain ⟨rfl,rfl⟩:=hR15
    refine ⟨⟨rfl,rfl,trivial⟩,?_⟩
    refine (T9 11 rfl rfl (Pu_build (V:=nodeV (at0 l 1).toNat (val (l.drop 2) 4) (at0 l 6).toNat zeroId) [(0,1),(1,1),(2,1),(3,32)] (nodeC 0 0 0 zeroId) rfl rfl (by kernel_rfl) (by kernel_rfl) (.one rfl rfl (by simp [nodeC,bs_length,zeroId_length]) rfl (.one rfl rfl (by simp [nodeC,bs_length,zeroId_length]) rfl (.one rfl rfl (by simp [nodeC,bs_length,zeroId_length]) rfl (.nil _)))) rfl) (Y9 [13] ?_))
    refine Ac09 rfl rfl rfl (OpT_storeAll (r:=102) rfl Tryz.sizeOf42 rfl rfl rfl (by simp [nodeC,bs_length,zeroId_length, *]) (by simp [nodeC,bs_length,zeroId_length, *]) (one_node _ _ _ _) ?_) ?_
    ·
     refine ⟨⟨rfl,rfl,trivial⟩,?_⟩
     refine (Ad9 (by kernel_rfl) (X9 ?_))
     refine Q9 ?_
     refine J9 [(0,_),(2,_),(3,_),(4,_),(7,_)] [(0,_),(101,_),(102,_)] ?_ ⟨rfl,rfl,rfl,rfl,rfl,trivial⟩ ⟨rfl,rfl,rfl,trivial⟩
     refine W_draw (N:=5) (by kernel_rfl) rfl [(0,_),(101,_)] ⟨rfl,rfl,trivial⟩ ?_
     refine (T9 0 rfl rfl (F9 3 rfl rfl) (T9 1 rfl rfl (Pu_sliceArr rfl Tryz.runUnderlying29 Tryz.sizeOf5 rfl) (T9 2 rfl rfl (Pm9 rfl rfl) (T9 3 rfl rfl (Pu_slice (r:=0) (a:=7) (b:=39) rfl Tryz.runUnderlying36 Tryz.sizeOf5 rfl rfl hF (.inr ⟨_,_,_,rfl,rfl,rfl⟩) (.inr ⟨_,_,_,rfl,rfl,rfl⟩) (by omega) (by omega)) (Y9 [4] ?_)))))
     refine Z9 rfl rfl (OpT_copyB (r:=102) (r2:=0) rfl Tryz.underlying36 TI.hsm5 rfl rfl rfl rfl (fun h hp => rdB_sub (hF h hp) (by omega) (by omega)) (bs_one _) (by simp [nodeC,bs_length,zeroId_length]; omega) (node_copy zeroId_length htop) ?_) ?_
     ·
      refine ⟨⟨rfl,rfl,trivial⟩,?_⟩
      refine (Ad9 (by kernel_rfl) (X9 ?_))
      refine Q9 ?_
      refine W_block ?_
      refine Q9 ?_
      refine J9 [(0,_),(2,_),(3,_),(4,_),(7,_)] [(0,_),(101,_),(102,_)] ?_ ⟨rfl,rfl,rfl,rfl,rfl,trivial⟩ ⟨rfl,rfl,rfl,trivial⟩
      refine R9 (M9 rfl rfl (L9 rfl (Pu_idxS1 (r:=0) rfl Tryz.runUnderlying36 Tryz.sizeOf5 rfl rfl rfl hF (by omega)) (L9 rfl (Py9 (r:=0) rfl Tryz.isAgg5 rfl rfl hF (bs_at1 (k:=0) (by omega))) (L9 rfl (Pn9 rfl rfl rfl (run_neq _ _ _ _ _ _)) (M9 rfl rfl (Lg9 rfl rfl rfl rfl (by decide) (fun hb => (Px9 (r:=102) rfl Tryz.isAgg42 Tryz.sizeOf42 rfl rfl (nodeC_length htop) (load_all (nodeC_length htop)))) (WL_guard (V:=.int .i64 (wrongN (parsed l).1 (parsed l).2.1 (parsed l).2.2.1 (parsed l).2.2.2)) rfl rfl rfl rfl (by decide) (fun hb => (Oc9 300 [0,101,102] [] rfl Tryz.call121 (evL_cons (ev_gv rfl hb) evL_nil) rfl rfl (by decide) (by decide) (wrong_spec _ _ _ _ htop _) (fun v33 Ps33 hR33 => ⟨hR33.1,fun w hw => by rw [hR33.2] at hw; exact hw.sub (AllIn.look ⟨rfl,rfl,rfl,trivial⟩)⟩))) ?_)))))))
      refine (Lg9 rfl rfl rfl rfl (by decide) (fun hb => (Pn9 rfl (ev_gv rfl hb) rfl (run_neq _ _ _ _ _ _))) (L9 rfl (Pu_or rfl rfl rfl) (G9 rfl rfl (N9 (X9 ?_)))))
      refine C9 rfl (fun hc26 => ?_) (fun hc26 => ?_)
      ·
       refine Q9 ?_
       refine J9 [(0,_),(2,_),(3,_),(4,_),(7,_),(26,_)] [(0,_),(101,_),(102,_)] ?_ ⟨rfl,rfl,rfl,rfl,rfl,rfl,trivial⟩ ⟨rfl,rfl,rfl,trivial⟩
       refine R9 (L9 rfl (Pu_build (V:=_) [(0,1),(1,1),(2,1),(3,32)] (nodeC 0 0 0 zeroId) rfl rfl (by kernel_rfl) (by kernel_rfl) (.nil _) rfl) (Lc09 rfl rfl (OpT_storeAll (r:=101) rfl Tryz.sizeOf42 rfl rfl rfl (by simp [nodeC,bs_length,zeroId_length, *]) (by simp [nodeC,bs_length,zeroId_length, *]) (one_node _ _ _ _) ?_)))
       refine (G9 rfl rfl (N9 (X9 ?_)))
       refine W_ret (X_block_ret (X_then_ret ?_))
       exact Xq9 [] (Ps:=[]) (resC2 (r:=101) Tryz.results85 rfl rfl Tryz.isAgg42 Tryz.sizeOf42 rfl (nodeC_length zeroId_length)) rfl (by decide) ⟨by rw [parseI_bad h39 hc26]; rfl,rfl⟩
      ·
       refine Q9 ?_
       refine J9 [(0,_),(2,_),(3,_),(4,_),(7,_),(26,_)] [(0,_),(101,_),(102,_)] ?_ ⟨rfl,rfl,rfl,rfl,rfl,rfl,trivial⟩ ⟨rfl,rfl,rfl,trivial⟩
       refine R9 (M9 rfl rfl (L9 rfl (Pl9 (r:=0) rfl Tryz.runUnderlying36 rfl rfl hF) (L9 rfl (Pn9 rfl rfl rfl (run_gtr _ _ _ _ _ _)) (G9 rfl rfl (N9 (X9 ?_))))))
       refine C9 rfl (fun hc37 => ?_) (fun hc37 => ?_)
       ·
        refine Q9 ?_
        refine J9 [(0,_),(2,_),(3,_),(4,_),(7,_),(26,_),(37,_)] [(0,_),(101,_),(102,_)] ?_ ⟨rfl,rfl,rfl,rfl,rfl,rfl,rfl,trivial⟩ ⟨rfl,rfl,rfl,trivial⟩
        refine R9 (L9 rfl (Pu_build (V:=_) [(0,1),(1,1),(2,1),(3,32)] (nodeC 0 0 0 zeroId) rfl rfl (by kernel_rfl) (by kernel_rfl) (.nil _) rfl) (Lc09 rfl rfl (OpT_storeAll (r:=101) rfl Tryz.sizeOf42 rfl rfl rfl (by simp [nodeC,bs_length,zeroId_length, *]) (by simp [nodeC,bs_length,zeroId_length, *]) (one_node _ _ _ _) ?_)))
        refine (G9 rfl rfl (N9 (X9 ?_)))
        refine W_ret (X_block_ret (X_then_ret ?_))
        exact Xq9 [] (Ps:=[]) (resC2 (r:=101) Tryz.results85 rfl rfl Tryz.isAgg42 Tryz.sizeOf42 rfl (nodeC_length zeroId_length)) rfl (by decide) ⟨by rw [parseI_more h39 hc26 hc37]; rfl,rfl⟩
       ·
        refine K9 (X_block (X9 ?_))
        refine Q9 ?_
        refine J9 [(0,_),(2,_),(3,_),(4,_),(7,_),(26,_),(37,_)] [(0,_),(101,_),(102,_)] ?_ ⟨rfl,rfl,rfl,rfl,rfl,rfl,rfl,trivial⟩ ⟨rfl,rfl,rfl,trivial⟩
        refine R9 (L9 rfl (Px9 (r:=102) rfl Tryz.isAgg42 Tryz.sizeOf42 rfl rfl (nodeC_length htop) (load_all (nodeC_length htop))) (Lc09 rfl rfl (OpT_storeAll (r:=101) rfl Tryz.sizeOf42 rfl rfl rfl rfl (nodeC_length htop) (one_node _ _ _ _) ?_)))
        refine (G9 rfl rfl (N9 (X9 ?_)))
        refine W_ret ?_
        exact Xq9 [] (Ps:=[]) (resC2 (r:=101) Tryz.results85 rfl rfl Tryz.isAgg42 Tryz.sizeOf42 rfl (nodeC_length htop)) rfl (by decide) ⟨by rw [parseI_ok h39 hc26 hc37]; rfl,rfl⟩
     exact An9
    exact An9
   exact An9
  exact An9
open Go.RowKit
set_option maxRecDepth 8000
theorem lookA_mem {α : Type} {k : List UInt8} {x : α} : ∀ {es : List (List UInt8 × α)},lookA k es = some x → (k,x) ∈ es
  | [],h => by cases h
  | p :: es,h => by
    rw [lookA] at h
    by_cases hk : k = p.1
    · rw [if_pos hk] at h; injection h with h; subst h; rw [hk]; exact List.mem_cons_self
    · rw [if_neg hk] at h; exact List.mem_cons_of_mem _ (lookA_mem h)
theorem vw_some {ls : List LB} {k : List UInt8} {p : Value × List UInt8} (h : lookA k ls = some p) : vw ls k = some p.2:=by unfold vw; rw [h]; rfl
theorem vw_none {ls : List LB} {k : List UInt8} (h : lookA k ls = none) : vw ls k = none:=by unfold vw; rw [h]; rfl
theorem is_none_F {α : Type} {o : Option α} (h : o.isSome = false) : o = none:=by cases o with | none => rfl | some x => cases h
theorem is_some_T {α : Type} {o : Option α} (h : o.isSome = true) : ∃ x,o = some x:=by cases o with | none => cases h | some x => exact ⟨x,rfl⟩
theorem fdiv_nat (a b : Nat) : (a : Int).fdiv (2 ^ b) = ((a / 2 ^ b : Nat) : Int):=by
  rw [Int.fdiv_eq_ediv_of_nonneg _ (by exact_mod_cast Nat.zero_le _)]
  simp
theorem pow8 (l : Nat) : 2 ^ (3 * l) = 8 ^ l:=by rw [Nat.pow_mul]
theorem rd_nil0 {size : Nat} {h : Hlt} : rdP size (.slice none 0 0) 0 [] h:=⟨by simp,none,0,rfl,Nat.le_refl _,fun _ => rfl,fun _ h => by cases h⟩
theorem or_of51 {p : List UInt8} {m : Nat} (h : (!decide (parseNE p = 0) || decide (((parseNL p).length : Int) ≤ (m : Int))) = true) : parseNE p ≠ 0 ∨ (parseNL p).length ≤ m:=by
  simp at h
  rcases h with h | h
  · exact .inl h
  · exact .inr (by omega)
theorem nor_of51 {p : List UInt8} {m : Nat} (h : (!decide (parseNE p = 0) || decide (((parseNL p).length : Int) ≤ (m : Int))) = false) : ¬ (parseNE p ≠ 0 ∨ (parseNL p).length ≤ m):=by
  simp at h
  intro hc
  rcases hc with hc | hc
  · exact hc h.1
  · omega
theorem or_of80 {p : List UInt8} {s : Int} {k : Nat} (hs : 0 ≤ s) (hk : (k : Int) * 64 < s) (h : (!decide ((p.length : Int) = 1 + min 64 (s - (k : Int) * 64)) || !decide (((at0 p 0).toNat : Int) = 100)) = true) : p.length ≠ 1 + min 64 (s.toNat - k * 64) ∨ at0 p 0 ≠ 100:=by
  by_cases hc : at0 p 0 = 100
  · left
    simp only [Bool.or_eq_true,Bool.not_eq_true',decide_eq_false_iff_not] at h
    rcases h with h | h
    · omega
    · rw [hc] at h; exact absurd rfl h
  · exact .inr hc
theorem nor_of80 {p : List UInt8} {s : Int} {k : Nat} (hs : 0 ≤ s) (hk : (k : Int) * 64 < s) (h : (!decide ((p.length : Int) = 1 + min 64 (s - (k : Int) * 64)) || !decide (((at0 p 0).toNat : Int) = 100)) = false) : ¬ (p.length ≠ 1 + min 64 (s.toNat - k * 64) ∨ at0 p 0 ≠ 100):=by
  simp only [Bool.or_eq_false_iff,Bool.not_eq_false',decide_eq_true_eq] at h
  intro hc
  rcases hc with hc | hc
  · exact hc (by have:=h.1; omega)
  · exact hc (UInt8.toNat_inj.1 (by have:=h.2; simp; omega))
theorem len_of80 {p : List UInt8} {m : Nat} (h : ¬ (p.length ≠ 1 + m ∨ at0 p 0 ≠ 100)) : 1 ≤ p.length:=by
  by_cases hc : p.length = 1 + m
  · omega
  · exact absurd (.inl hc) h
theorem block_some (gm : Nat) (ls : List LB) (F : HP) (hM : ∀ h,F h → mapQ idV ok32 gm (entsL ls) none h) (id : List UInt8) (hid : id.length = 32) (p : Value × List UInt8) (hlk : lookA id ls = some p) : CallsS Tryz.prog 84 #[.map (some gm),idV id] F [] (fun r Ps => r = .tuple #[p.1,.int .i64 0] ∧ Ps = []):=by
 refine callsS_enter Tryz.func84 rfl Tryz.ntmps84 (by simp) (fun E => ?_)
 refine Q9 (R9 (Lc9 rfl rfl (by decide) (OpT_box (r:=101) rfl rfl rfl (fun g101 => (G9 rfl rfl (G9 rfl rfl (N9 (X9 (Q9 (R9 (M9 rfl rfl (L9 rfl (Px9 (r:=101) rfl Tryz.isAgg29 Tryz.sizeOf29 rfl rfl ((bs_length _).trans hid) (load_all ((bs_length _).trans hid))) (L9 rfl (Pu_lookupOkF (r:=0) keyB rfl Tryz.underlying93 Tryz.zeroValue36 rfl rfl hid rfl hM) ?_)))))))))))))
 rw [entsL_fil,lookQ_fil,hlk]
 refine (M9 rfl rfl (L9 rfl (Pe9 rfl rfl rfl) (L9 rfl (Pe9 rfl rfl rfl) (G9 rfl rfl (G9 rfl rfl (N9 (X9 ?_)))))))
 refine Q9 (Q9 (R9 (M9 rfl rfl (L9 rfl (Pu_un rfl rfl (run_not _)) (N9 (X9 ?_))))))
 refine W_false rfl (rfl) ?_
 refine K9 (X9 ?_)
 refine Q9 (R9 (M9 rfl rfl (G9 rfl rfl (G9 rfl rfl (N9 (X9 ?_))))))
 refine W_ret ?_
 exact Xq9 [] (Ps:=[]) (res2 Tryz.results84 rfl rfl) rfl (by decide) ⟨rfl,rfl⟩
theorem block_none (gm : Nat) (ls : List LB) (F : HP) (hM : ∀ h,F h → mapQ idV ok32 gm (entsL ls) none h) (id : List UInt8) (hid : id.length = 32) (hlk : lookA id ls = none) : CallsS Tryz.prog 84 #[.map (some gm),idV id] F [] (fun r Ps => r = .tuple #[.slice none 0 0,.int .i64 18] ∧ Ps = []):=by
 refine callsS_enter Tryz.func84 rfl Tryz.ntmps84 (by simp) (fun E => ?_)
 refine Q9 (R9 (Lc9 rfl rfl (by decide) (OpT_box (r:=101) rfl rfl rfl (fun g101 => (G9 rfl rfl (G9 rfl rfl (N9 (X9 (Q9 (R9 (M9 rfl rfl (L9 rfl (Px9 (r:=101) rfl Tryz.isAgg29 Tryz.sizeOf29 rfl rfl ((bs_length _).trans hid) (load_all ((bs_length _).trans hid))) (L9 rfl (Pu_lookupOkF (r:=0) keyB rfl Tryz.underlying93 Tryz.zeroValue36 rfl rfl hid rfl hM) ?_)))))))))))))
 rw [entsL_fil,lookQ_fil,hlk]
 refine (M9 rfl rfl (L9 rfl (Pe9 rfl rfl rfl) (L9 rfl (Pe9 rfl rfl rfl) (G9 rfl rfl (G9 rfl rfl (N9 (X9 ?_)))))))
 refine Q9 (Q9 (R9 (M9 rfl rfl (L9 rfl (Pu_un rfl rfl (run_not _)) (N9 (X9 ?_))))))
 refine W_true rfl (rfl) ?_
 refine Q9 (R9 (G9 rfl rfl (G9 rfl rfl (N9 (X9 ?_)))))
 refine W_ret (X_then_ret ?_)
 exact Xq9 [] (Ps:=[]) (res2 Tryz.results84 rfl rfl) rfl (by decide) ⟨rfl,rfl⟩
theorem inode_some (gm : Nat) (ls : List LB) (F : HP) (hM : ∀ h,F h → mapQ idV ok32 gm (entsL ls) none h) (hL : ∀ p ∈ ls,∀ h,F h → rdB p.2.1 p.2.2 h) (id : List UInt8) (hid : id.length = 32) (p : Value × List UInt8) (hlk : lookA id ls = some p) : CallsS Tryz.prog 58 #[.map (some gm),idV id] F [] (fun r Ps => r = .tuple #[.agg (ndC (inodeV (vw ls) id).1).toArray,.int .i64 (inodeV (vw ls) id).2] ∧ Ps = []):=by
 refine callsS_enter Tryz.func58 rfl Tryz.ntmps58 (by simp) (fun E => ?_)
 refine Q9 (R9 (Lc9 rfl rfl (by decide) (OpT_box (r:=101) rfl rfl rfl (fun g101 => (Lc9 rfl rfl (by decide) (OpT_alloc (r:=102) (cs:=(nodeC 0 0 0 zeroId)) rfl (zero_run (by kernel_rfl : (Tryz.prog.info? 42).bind (·.zero) = some (.agg (nodeC 0 0 0 zeroId).toArray))) rfl (fun g102 => (G9 rfl rfl (N9 (X9 (Q9 (R9 (M9 rfl rfl (L9 rfl (Px9 (r:=101) rfl Tryz.isAgg29 Tryz.sizeOf29 rfl rfl ((bs_length _).trans hid) (load_all ((bs_length _).trans hid))) (Lc9 rfl rfl (by decide) (Oc9 200 [0,101,102] [] rfl Tryz.call84 rfl rfl rfl (by decide) (by decide) (block_some gm ls _ (mapQ_star 0 rfl hM) id hid p hlk) (fun v11 Ps11 hR11 => ?_)))))))))))))))))
 obtain ⟨rfl,rfl⟩:=hR11
 refine (M9 rfl rfl (L9 rfl (Pe9 rfl rfl rfl) (L9 rfl (Pe9 rfl rfl rfl) (G9 rfl rfl (G9 rfl rfl (N9 (X9 ?_)))))))
 refine Q9 (Q9 (R9 (M9 rfl rfl (L9 rfl (Pn9 rfl rfl rfl (run_neq _ _ _ _ _ _)) (N9 (X9 ?_))))))
 refine W_false rfl (rfl) ?_
 refine K9 (X9 ?_)
 refine Q9 (R9 (M9 rfl rfl (Lc9 rfl rfl (by decide) (Oc9 300 [0,101,102] [] rfl Tryz.call85 rfl rfl rfl (by decide) (by decide) (parseInode_spec p.1 p.2 _ (rs9 0 rfl (hL _ (lookA_mem hlk)))) (fun v19 Ps19 hR19 => ?_)))))
 obtain ⟨rfl,rfl⟩:=hR19
 refine (L9 rfl (Pe9 rfl rfl rfl) (L9 rfl (Pe9 rfl rfl rfl) (Lc09 rfl rfl (OpT_storeAll (r:=102) rfl Tryz.sizeOf42 rfl rfl rfl (nodeC_length zeroId_length) (nodeC_length (parseI_top _)) (one_node _ _ _ _) ?_))))
 refine (G9 rfl rfl (N9 (X9 ?_)))
 refine W_ret ?_
 exact Xq9 [] (Ps:=[]) (resC2 (r:=102) Tryz.results58 rfl rfl Tryz.isAgg42 Tryz.sizeOf42 rfl (nodeC_length (parseI_top _))) rfl (by decide) ⟨by unfold inodeV; rw [vw_some hlk] <;> rfl,rfl⟩
theorem inode_none (gm : Nat) (ls : List LB) (F : HP) (hM : ∀ h,F h → mapQ idV ok32 gm (entsL ls) none h) (hL : ∀ p ∈ ls,∀ h,F h → rdB p.2.1 p.2.2 h) (id : List UInt8) (hid : id.length = 32) (hlk : lookA id ls = none) : CallsS Tryz.prog 58 #[.map (some gm),idV id] F [] (fun r Ps => r = .tuple #[.agg (ndC (inodeV (vw ls) id).1).toArray,.int .i64 (inodeV (vw ls) id).2] ∧ Ps = []):=by
 refine callsS_enter Tryz.func58 rfl Tryz.ntmps58 (by simp) (fun E => ?_)
 refine Q9 (R9 (Lc9 rfl rfl (by decide) (OpT_box (r:=101) rfl rfl rfl (fun g101 => (Lc9 rfl rfl (by decide) (OpT_alloc (r:=102) (cs:=(nodeC 0 0 0 zeroId)) rfl (zero_run (by kernel_rfl : (Tryz.prog.info? 42).bind (·.zero) = some (.agg (nodeC 0 0 0 zeroId).toArray))) rfl (fun g102 => (G9 rfl rfl (N9 (X9 (Q9 (R9 (M9 rfl rfl (L9 rfl (Px9 (r:=101) rfl Tryz.isAgg29 Tryz.sizeOf29 rfl rfl ((bs_length _).trans hid) (load_all ((bs_length _).trans hid))) (Lc9 rfl rfl (by decide) (Oc9 200 [0,101,102] [] rfl Tryz.call84 rfl rfl rfl (by decide) (by decide) (block_none gm ls _ (mapQ_star 0 rfl hM) id hid hlk) (fun v11 Ps11 hR11 => ?_)))))))))))))))))
 obtain ⟨rfl,rfl⟩:=hR11
 refine (M9 rfl rfl (L9 rfl (Pe9 rfl rfl rfl) (L9 rfl (Pe9 rfl rfl rfl) (G9 rfl rfl (G9 rfl rfl (N9 (X9 ?_)))))))
 refine Q9 (Q9 (R9 (M9 rfl rfl (L9 rfl (Pn9 rfl rfl rfl (run_neq _ _ _ _ _ _)) (N9 (X9 ?_))))))
 refine W_true rfl (rfl) ?_
 refine Q9 (R9 (L9 rfl (Pu_build (V:=.agg (nodeC 0 0 0 zeroId).toArray) [(0,1),(1,1),(2,1),(3,32)] (nodeC 0 0 0 zeroId) rfl rfl (by kernel_rfl) (by kernel_rfl) (.nil _) rfl) (M9 rfl rfl (Lc09 rfl rfl (OpT_storeAll (r:=102) rfl Tryz.sizeOf42 rfl rfl rfl (nodeC_length zeroId_length) (nodeC_length zeroId_length) (one_node _ _ _ _) ?_)))))
 refine (G9 rfl rfl (N9 (X9 ?_)))
 refine W_ret (X_then_ret ?_)
 exact Xq9 [] (Ps:=[]) (resC2 (r:=102) Tryz.results58 rfl rfl Tryz.isAgg42 Tryz.sizeOf42 rfl (nodeC_length zeroId_length)) rfl (by decide) ⟨by unfold inodeV; rw [vw_none hlk] <;> rfl,rfl⟩
theorem view_inode (gm : Nat) (ls : List LB) (F : HP) (hM : ∀ h,F h → mapQ idV ok32 gm (entsL ls) none h) (hL : ∀ p ∈ ls,∀ h,F h → rdB p.2.1 p.2.2 h) (id : List UInt8) (hid : id.length = 32) : CallsS Tryz.prog 58 #[.map (some gm),idV id] F [] (fun r Ps => r = .tuple #[.agg (ndC (inodeV (vw ls) id).1).toArray,.int .i64 (inodeV (vw ls) id).2] ∧ Ps = []):=by
  cases hlk : lookA id ls with
  | none => exact inode_none gm ls F hM hL id hid hlk
  | some p => exact inode_some gm ls F hM hL id hid p hlk
theorem view_row (gm : Nat) (ls : List LB) (F : HP) (hM : ∀ h,F h → mapQ idV ok32 gm (entsL ls) none h) (hL : ∀ p ∈ ls,∀ h,F h → rdB p.2.1 p.2.2 h) (nd : Nd) (hnd : NdOk nd) (k : Nat) (hk : (k : Int) * 64 < nd.2.1) : CallsS Tryz.prog 83 #[.map (some gm),.agg (ndC nd).toArray,.int .i64 (k : Int)] F [] (fun r Ps => Ps = [] ∧ ((rowV (vw ls) nd.2.1.toNat (lev nd.2.1) nd.2.2.2 k).2 ≠ 0 → r = .tuple #[.slice none 0 0,.int .i64 ((rowV (vw ls) nd.2.1.toNat (lev nd.2.1) nd.2.2.2 k).2 : Int)]) ∧ ((rowV (vw ls) nd.2.1.toNat (lev nd.2.1) nd.2.2.2 k).2 = 0 → ∃ p ∈ ls,r = .tuple #[subV 1 p.2.1 1 p.2.2.length,.int .i64 0] ∧ (rowV (vw ls) nd.2.1.toNat (lev nd.2.1) nd.2.2.2 k).1 = p.2.2.drop 1 ∧ 1 ≤ p.2.2.length)):=by
 obtain ⟨hk0,hs0,hs1,hlv,htl⟩:=id hnd
 have hll:=lev_le nd.2.1
 refine callsS_enter Tryz.func83 rfl Tryz.ntmps83 (by simp) (fun E => ?_)
 refine Q9 (R9 (Lc9 rfl rfl (by decide) (OpT_box (r:=101) rfl rfl rfl (fun g101 => (G9 rfl rfl (G9 rfl rfl (N9 (X9 (Q9 (R9 (L9 rfl (F9 3 rfl rfl) (L9 rfl (Px9 (r:=101) rfl Tryz.isAgg29 Tryz.sizeOf29 rfl rfl ((bs_length _).trans htl) (take_top htl)) (Lc9 rfl rfl (by decide) (OpT_alloc (r:=102) (cs:=(bs zeroId)) rfl (zero_run (by kernel_rfl : (Tryz.prog.info? 29).bind (·.zero) = some (.agg (bs zeroId).toArray))) rfl (fun g102 => (Lc09 rfl rfl (OpT_storeAll (r:=102) rfl Tryz.sizeOf29 rfl rfl rfl ((bs_length _).trans zeroId_length) ((bs_length _).trans hnd.2.2.2.2) (bs_one _) ?_)))))))))))))))))
 refine (N9 (X9 ?_))
 refine Q9 (Q9 (R9 (L9 rfl (F9 2 rfl rfl) (L9 rfl (Pb9 (r:=101) rfl Tryz.isAgg3 rfl rfl rfl) (L9 rfl (Pn9 rfl rfl rfl (run_sub _ _ _ _ _ (by have:=lev_le nd.2.1; rw [hnd.2.2.2.1]; omega))) ?_)))))
 rw [hnd.2.2.2.1]
 refine (G9 rfl rfl (N9 (X9 ?_)))
 refine W_block ?_
 refine W_loop (α:=Nat × List UInt8) (fun x => [(0,.map (some gm)),(2,.int .i64 (k : Int)),(4,.pointer (some ⟨g101,0,none⟩)),(8,.pointer (some ⟨g102,0,none⟩)),(9,.int .i64 ((x.1 : Int) - 1))]) (fun x => [(0,F),(101,blk g101 42 (ndC nd)),(102,blk g102 29 (bs x.2))]) (fun x => x.1 ≤ 7 ∧ x.2.length = 32 ∧ rowA (vw ls) k x.1 x.2 = rowA (vw ls) k (lev nd.2.1) nd.2.2.2) (fun x => x.1) ((lev nd.2.1,nd.2.2.2)) ⟨lev_le _,hnd.2.2.2.2,rfl⟩ (a9 rfl) (a9 rfl) (fun x hx => ?_)
 obtain ⟨hx1,hx2,hx3⟩:=hx
 refine Q9 (Q9 (R9 (M9 rfl rfl (L9 rfl (Pn9 rfl rfl rfl (run_geq _ _ _ _ _ _)) (N9 (X9 ?_))))))
 refine C9 rfl (fun hc22 => ?_) (fun hc22 => ?_)
 ·
  obtain ⟨l,hl⟩ : ∃ l,x.1 = l + 1:=⟨x.1 - 1,by have:=of_decide_eq_true hc22; omega⟩
  obtain ⟨q,hq1,hq2⟩ : ∃ q : Nat,q = k / 8 ^ l ∧ q ≤ k:=⟨_,rfl,Nat.div_le_self _ _⟩
  refine K9 (X9 ?_)
  refine Q9 ?_
  refine W_block ?_
  refine Q9 ?_
  rcases Bool.eq_false_or_eq_true ((lookA x.2 ls).isSome) with hsp5 | hsp5
  ·
   obtain ⟨p,hlk⟩:=is_some_T hsp5
   have hpm:=lookA_mem hlk
   have hpd : ∀ h,F h → rdB p.1 p.2 h:=hL _ hpm
   refine R9 (M9 rfl rfl (L9 rfl (Px9 (r:=102) rfl Tryz.isAgg29 Tryz.sizeOf29 rfl rfl ((bs_length _).trans hx2) (load_all ((bs_length _).trans hx2))) (Lc9 rfl rfl (by decide) (Oc9 200 [0,101,102] [] rfl Tryz.call84 rfl rfl rfl (by decide) (by decide) (block_some gm ls _ (mapQ_star 0 rfl hM) x.2 hx2 p hlk) (fun v28 Ps28 hR28 => ?_)))))
   obtain ⟨rfl,rfl⟩:=hR28
   refine (M9 rfl rfl (L9 rfl (Pe9 rfl rfl rfl) (L9 rfl (Pe9 rfl rfl rfl) (G9 rfl rfl (G9 rfl rfl (N9 (X9 ?_)))))))
   refine Q9 (Q9 (R9 (M9 rfl rfl (L9 rfl (Pn9 rfl rfl rfl (run_neq _ _ _ _ _ _)) (N9 (X9 ?_))))))
   refine W_false rfl (rfl) ?_
   refine K9 (X9 ?_)
   refine Q9 (R9 (M9 rfl rfl (Lc9 rfl rfl (by decide) (Oc9 300 [0,101,102] [] rfl Tryz.call119 rfl rfl rfl (by decide) (by decide) (parseInner_spec p.1 p.2 _ (rs9 0 rfl hpd)) (fun v36 Ps36 hR36 => ?_)))))
   obtain ⟨w36,rfl,rfl⟩:=hR36
   skip
   refine (M9 rfl rfl (L9 rfl (Pe9 rfl rfl rfl) (L9 rfl (Pe9 rfl rfl rfl) (G9 rfl rfl (G9 rfl rfl (N9 (X9 ?_)))))))
   refine Q9 (R9 (M9 rfl rfl (M9 rfl rfl (L9 rfl (Pn9 rfl rfl rfl (run_mul _ _ _ _ _ (by omega))) ?_))))
   rw [show (3 : Int) * ((x.1 : Int) - 1) = ((3 * l : Nat) : Int) by omega]
   refine (L9 rfl (Pn9 rfl rfl rfl (run_shr (k : Int) (3 * l) _ _ _ (by omega))) ?_)
   rw [fdiv_nat,pow8,← hq1]
   refine (L9 rfl (Pn9 rfl rfl rfl (run_rem _ _ _ _ _ (by omega))) ?_)
   rw [show (q : Int) % 8 = ((q % 8 : Nat) : Int) from rfl]
   refine (G9 rfl rfl (N9 (X9 ?_)))
   refine Q9 (Q9 (R9 (M9 rfl rfl (L9 rfl (Pn9 rfl rfl rfl (run_neq _ _ _ _ _ _)) (M9 rfl rfl (Lg9 rfl rfl rfl rfl (by decide) (fun hb => (Pm9 rfl rfl)) (Lg9 rfl rfl rfl rfl (by decide) (fun hb => (Pm9 rfl rfl)) (Lg9 rfl rfl rfl rfl (by decide) (fun hb => (Pl9 (r:=300) rfl Tryz.runUnderlying165 (ev_gv rfl hb) rfl (fun _ h => rp9 h))) (Lg9 rfl rfl rfl rfl (by decide) (fun hb => (Pn9 rfl (ev_gv rfl hb) (ev_gv rfl hb) (run_geq _ _ _ _ _ _))) (L9 rfl (Pu_or rfl rfl rfl) (N9 (X9 ?_))))))))))))
   refine C9 rfl (fun hc51 => ?_) (fun hc51 => ?_)
   ·
    have hbad : rowA (vw ls) k (lev nd.2.1) nd.2.2.2 = ([],11):=by rw [← hx3,hl,rowA,vw_some hlk]; dsimp only; rw [← hq1,if_pos (or_of51 hc51)]
    refine Q9 (R9 (G9 rfl rfl (G9 rfl rfl (N9 (X9 ?_)))))
    refine W_ret (X_then_ret (X_block_ret (X_then_ret (X_then_ret (X_block_ret (X_then_ret ?_))))))
    have hres : rowV (vw ls) nd.2.1.toNat (lev nd.2.1) nd.2.2.2 k = ([],11):=by unfold rowV rowE2; rw [hbad]; rfl
    exact Xq9 [] (Ps:=[]) (res2 Tryz.results83 rfl rfl) rfl (by decide) (by rw [hres]; exact ⟨rfl,fun _ => rfl,fun h => absurd h (by decide)⟩)
   ·
    have hok51 : ¬ (parseNE p.2 ≠ 0 ∨ (parseNL p.2).length ≤ q % 8):=nor_of51 hc51
    have hlt51 : q % 8 < (parseNL p.2).length:=by omega
    have hid2:=(parseNL_ids p.2).1.get hlt51
    refine K9 (X9 ?_)
    refine R9 (M9 rfl rfl (M9 rfl rfl (L9 rfl (Pi9 (r:=300) rfl Tryz.runUnderlying165 Tryz.sizeOf29 rfl rfl rfl (fun _ h => rp9 h) (by omega)) (L9 rfl (Pz9 (r:=300) rfl Tryz.isAgg29 Tryz.sizeOf29 rfl rfl (fun _ h => rp9 h) ((bs_length _).trans hid2) (by decide) (idsC_get (parseNL_ids p.2).1 hlt51)) (Lc09 rfl rfl (OpT_storeAll (r:=102) rfl Tryz.sizeOf29 rfl rfl rfl ((bs_length _).trans hx2) ((bs_length _).trans hid2) (bs_one _) ?_))))))
    refine (N9 (X_block (X9 ?_)))
    refine R9 (M9 rfl rfl (L9 rfl (Pn9 rfl rfl rfl (run_sub _ _ _ _ _ (by omega))) (G9 rfl rfl (N9 ?_))))
    exact Xr9 (l,(parseNL p.2).getD (q % 8) []) ⟨by dsimp only; omega,hid2,by rw [← hx3,hl,rowA,vw_some hlk]; dsimp only; rw [← hq1,if_neg hok51]⟩ (by dsimp only; omega) ⟨rfl,rfl,rfl,rfl,lookV_eq rfl (int_eq (by dsimp only; omega)),trivial⟩ ⟨rfl,rfl,rfl,trivial⟩
  ·
   have hlk:=is_none_F hsp5
   refine R9 (M9 rfl rfl (L9 rfl (Px9 (r:=102) rfl Tryz.isAgg29 Tryz.sizeOf29 rfl rfl ((bs_length _).trans hx2) (load_all ((bs_length _).trans hx2))) (Lc9 rfl rfl (by decide) (Oc9 200 [0,101,102] [] rfl Tryz.call84 rfl rfl rfl (by decide) (by decide) (block_none gm ls _ (mapQ_star 0 rfl hM) x.2 hx2 hlk) (fun v28 Ps28 hR28 => ?_)))))
   obtain ⟨rfl,rfl⟩:=hR28
   refine (M9 rfl rfl (L9 rfl (Pe9 rfl rfl rfl) (L9 rfl (Pe9 rfl rfl rfl) (G9 rfl rfl (G9 rfl rfl (N9 (X9 ?_)))))))
   refine Q9 (Q9 (R9 (M9 rfl rfl (L9 rfl (Pn9 rfl rfl rfl (run_neq _ _ _ _ _ _)) (N9 (X9 ?_))))))
   refine W_true rfl (rfl) ?_
   refine Q9 (R9 (M9 rfl rfl (G9 rfl rfl (G9 rfl rfl (N9 (X9 ?_))))))
   refine W_ret (X_then_ret (X_block_ret (X_then_ret (X_then_ret (X_block_ret (X_then_ret ?_))))))
   have hres : rowV (vw ls) nd.2.1.toNat (lev nd.2.1) nd.2.2.2 k = ([],18):=by unfold rowV rowE2; rw [← hx3,hl,rowA,vw_none hlk]; rfl
   exact Xq9 [] (Ps:=[]) (res2 Tryz.results83 rfl rfl) rfl (by decide) (by rw [hres]; exact ⟨rfl,fun _ => rfl,fun h => absurd h (by decide)⟩)
 ·
  have hl0 : x.1 = 0:=by have:=of_decide_eq_false hc22; omega
  have hra : rowA (vw ls) k (lev nd.2.1) nd.2.2.2 = (x.2,0):=by rw [← hx3,hl0]; rfl
  refine W_exit (X_then_exit (X_then_exit (X_block_exit (X9 ?_))))
  refine Q9 ?_
  rcases Bool.eq_false_or_eq_true ((lookA x.2 ls).isSome) with hsp13 | hsp13
  ·
   obtain ⟨p,hlk⟩:=is_some_T hsp13
   have hpm:=lookA_mem hlk
   have hpd : ∀ h,F h → rdB p.1 p.2 h:=hL _ hpm
   refine R9 (M9 rfl rfl (L9 rfl (Px9 (r:=102) rfl Tryz.isAgg29 Tryz.sizeOf29 rfl rfl ((bs_length _).trans hx2) (load_all ((bs_length _).trans hx2))) (Lc9 rfl rfl (by decide) (Oc9 200 [0,101,102] [] rfl Tryz.call84 rfl rfl rfl (by decide) (by decide) (block_some gm ls _ (mapQ_star 0 rfl hM) x.2 hx2 p hlk) (fun v59 Ps59 hR59 => ?_)))))
   obtain ⟨rfl,rfl⟩:=hR59
   refine (M9 rfl rfl (L9 rfl (Pe9 rfl rfl rfl) (L9 rfl (Pe9 rfl rfl rfl) (G9 rfl rfl (G9 rfl rfl (N9 (X9 ?_)))))))
   refine Q9 (Q9 (R9 (M9 rfl rfl (L9 rfl (Pn9 rfl rfl rfl (run_neq _ _ _ _ _ _)) (N9 (X9 ?_))))))
   refine W_false rfl (rfl) ?_
   refine K9 (X9 ?_)
   refine Q9 (Q9 (R9 (M9 rfl rfl (L9 rfl (Pl9 (r:=0) rfl Tryz.runUnderlying36 rfl rfl hpd) (L9 rfl (F9 1 rfl rfl) (L9 rfl (Pb9 (r:=101) rfl Tryz.isAgg3 rfl rfl rfl) (M9 rfl rfl (L9 rfl (Pn9 rfl rfl rfl (run_mul _ _ _ _ _ (by omega))) (L9 rfl (Pn9 rfl rfl rfl (run_sub _ _ _ _ _ (by omega))) (L9 rfl (Pu_min rfl rfl rfl) (L9 rfl (Pn9 rfl rfl rfl (run_add _ _ _ _ _ (by omega))) (L9 rfl (Pn9 rfl rfl rfl (run_neq _ _ _ _ _ _)) (M9 rfl rfl (Lg9 rfl rfl rfl rfl (by decide) (fun hb => (Pm9 rfl rfl)) (Lg9 rfl rfl rfl rfl (by decide) (fun hb => (Pu_idxS1 (r:=0) rfl Tryz.runUnderlying36 Tryz.sizeOf5 (ev_gv rfl hb) rfl rfl hpd (by have h9 : ((p.2.length : Int) = 1 + min 64 (nd.2.1 - (k : Int) * 64)):=(by simpa using hb); omega))) (Lg9 rfl rfl rfl rfl (by decide) (fun hb => (Py9 (r:=0) rfl Tryz.isAgg5 (ev_gv rfl hb) rfl hpd (bs_at1 (by have h9 : ((p.2.length : Int) = 1 + min 64 (nd.2.1 - (k : Int) * 64)):=(by simpa using hb); omega)))) (Lg9 rfl rfl rfl rfl (by decide) (fun hb => (Pn9 rfl (ev_gv rfl hb) rfl (run_neq _ _ _ _ _ _))) (L9 rfl (Pu_or rfl rfl rfl) (N9 (X9 ?_))))))))))))))))))))
   refine C9 rfl (fun hc80 => ?_) (fun hc80 => ?_)
   ·
    have hres : rowV (vw ls) nd.2.1.toNat (lev nd.2.1) nd.2.2.2 k = ([],11):=by unfold rowV rowE2; rw [hra]; dsimp only; rw [if_neg (fun h => h rfl),vw_some hlk]; dsimp only; rw [if_pos (or_of80 hnd.2.1 hk hc80)]
    refine Q9 (R9 (G9 rfl rfl (G9 rfl rfl (N9 (X9 ?_)))))
    refine W_ret (X_then_ret ?_)
    exact Xq9 [] (Ps:=[]) (res2 Tryz.results83 rfl rfl) rfl (by decide) (by rw [hres]; exact ⟨rfl,fun _ => rfl,fun h => absurd h (by decide)⟩)
   ·
    have hok80:=nor_of80 hnd.2.1 hk hc80
    have hres : rowV (vw ls) nd.2.1.toNat (lev nd.2.1) nd.2.2.2 k = (p.2.drop 1,0):=by unfold rowV rowE2; rw [hra]; dsimp only; rw [if_neg (fun h => h rfl),vw_some hlk]; dsimp only; rw [if_neg hok80]
    have hp1 : 1 ≤ p.2.length:=len_of80 hok80
    refine K9 (X9 ?_)
    refine Q9 (R9 (M9 rfl rfl (L9 rfl (Pu_slice (r:=0) (a:=1) rfl Tryz.runUnderlying36 Tryz.sizeOf5 rfl rfl hpd (.inr ⟨_,_,_,rfl,rfl,rfl⟩) (.inl ⟨rfl,rfl⟩) hp1 (by omega)) (G9 rfl rfl (G9 rfl rfl (N9 (X9 ?_)))))))
    refine W_ret ?_
    exact Xq9 [] (Ps:=[]) (res2 Tryz.results83 rfl rfl) rfl (by decide) (by rw [hres]; exact ⟨rfl,fun h => absurd rfl h,fun _ => ⟨_,hpm,rfl,rfl,hp1⟩⟩)
  ·
   have hlk:=is_none_F hsp13
   refine R9 (M9 rfl rfl (L9 rfl (Px9 (r:=102) rfl Tryz.isAgg29 Tryz.sizeOf29 rfl rfl ((bs_length _).trans hx2) (load_all ((bs_length _).trans hx2))) (Lc9 rfl rfl (by decide) (Oc9 200 [0,101,102] [] rfl Tryz.call84 rfl rfl rfl (by decide) (by decide) (block_none gm ls _ (mapQ_star 0 rfl hM) x.2 hx2 hlk) (fun v59 Ps59 hR59 => ?_)))))
   obtain ⟨rfl,rfl⟩:=hR59
   refine (M9 rfl rfl (L9 rfl (Pe9 rfl rfl rfl) (L9 rfl (Pe9 rfl rfl rfl) (G9 rfl rfl (G9 rfl rfl (N9 (X9 ?_)))))))
   refine Q9 (Q9 (R9 (M9 rfl rfl (L9 rfl (Pn9 rfl rfl rfl (run_neq _ _ _ _ _ _)) (N9 (X9 ?_))))))
   refine W_true rfl (rfl) ?_
   refine Q9 (R9 (M9 rfl rfl (G9 rfl rfl (G9 rfl rfl (N9 (X9 ?_))))))
   refine W_ret (X_then_ret ?_)
   have hres : rowV (vw ls) nd.2.1.toNat (lev nd.2.1) nd.2.2.2 k = ([],18):=by unfold rowV rowE2; rw [hra]; dsimp only; rw [if_neg (fun h => h rfl),vw_none hlk]
   exact Xq9 [] (Ps:=[]) (res2 Tryz.results83 rfl rfl) rfl (by decide) (by rw [hres]; exact ⟨rfl,fun _ => rfl,fun h => absurd h (by decide)⟩)
open Go.RowKit
set_option maxRecDepth 8000
theorem Pu_max {P : Program} {E : Env} {n : Nat} {K : Slots} {L : Res} {o : Oper} {x y : Operand} {ts : Array TypeId} {a b : Int} (ho : o.op = .call { callee:=.builtin .max,args:=#[x,y],argTypes:=ts }) (hx : evK K x = some (.int .i64 a)) (hy : evK K y = some (.int .i64 b)) : Pure P E n o K L (.int .i64 (max a b)):=fun c w hA hS => by
  have : (if b > a then b else a) = max a b:=by simp only [Int.max_def]; split <;> split <;> omega
  simp only [execOp,ho,resolve,invoke,builtin,Sem.run_bind,Sem.run_pure,Result.andThen_ok,List.map_toArray,List.map_cons,List.map_nil,hA.eval hx,hA.eval hy]
  simp [Builtin.max_,Builtin.max2,this,Result.andThen]
theorem and_of29 {a b c : Nat} (h : (decide ((a : Int) < (b : Int)) && decide ((c : Int) * 64 < (b : Int))) = true) : a < b ∧ c * 64 < b:=by
  simp only [Bool.and_eq_true,decide_eq_true_eq] at h
  omega
theorem nand_of29 {a b c : Nat} (h : (decide ((a : Int) < (b : Int)) && decide ((c : Int) * 64 < (b : Int))) = false) : ¬ a < b ∨ ¬ c * 64 < b:=by
  simp only [Bool.and_eq_false_iff,decide_eq_false_iff_not] at h
  omega
theorem bytesA_len (V : VW) (size lv frm to : Nat) (top : List UInt8) : ∀ (f k : Nat) (acc : List UInt8),acc.length ≤ k * 64 → (bytesA V size lv top frm to f k acc).1.length ≤ max (k * 64) (to + 64)
  | 0,k,acc,h => by rw [bytesA]; show acc.length ≤ _; omega
  | f + 1,k,acc,h => by
    by_cases hk : k * 64 < to
    · by_cases he : (rowV V size lv top k).2 = 0
      · rw [bytesA_next hk he]
        have hl:=rowV_len he
        have:=bytesA_len V size lv frm to top f (k + 1) (acc ++ ((rowV V size lv top k).1.take (min (to - k * 64) (rowV V size lv top k).1.length)).drop (frm - k * 64)) (by rw [List.length_append,List.length_drop,List.length_take]; omega)
        omega
      · rw [bytesA_bad hk he]; simp
    · rw [bytesA_end hk]; show acc.length ≤ _; omega
theorem bytesV_len (V : VW) (nd : Nd) (frm to : Nat) : (bytesV V nd frm to).1.length ≤ frm + to + 64:=by
  unfold bytesV
  split
  · have:=bytesA_len V nd.2.1.toNat nd.2.2.1.toNat frm to nd.2.2.2 (to + 1) (frm / 64) [] (by simp)
    omega
  · simp
theorem view_bytes (gm : Nat) (ls : List LB) (F : HP) (hM : ∀ h,F h → mapQ idV ok32 gm (entsL ls) none h) (hL : ∀ p ∈ ls,∀ h,F h → rdB p.2.1 p.2.2 h) (nd : Nd) (hnd : NdOk nd) (frm to : Nat) (hto : (to : Int) ≤ nd.2.1) (hfr : frm ≤ 1000000000000) : CallsS Tryz.prog 57 #[.map (some gm),.agg (ndC nd).toArray,.int .i64 (frm : Int),.int .i64 (to : Int)] F [] (fun r Ps => ∃ v,r = .tuple #[v,.int .i64 ((bytesV (vw ls) nd frm to).2 : Int)] ∧ Ps = [rowB 5 v (bytesV (vw ls) nd frm to).1]):=by
 obtain ⟨hk0,hs0,hs1,hlv,htl⟩:=id hnd
 have hLv : nd.2.2.1.toNat = lev nd.2.1:=by omega
 refine callsS_enter Tryz.func57 rfl Tryz.ntmps57 (by simp) (fun E => ?_)
 refine Q9 (R9 (Lc9 rfl rfl (by decide) (OpT_box (r:=101) rfl rfl rfl (fun g101 => (G9 rfl rfl (G9 rfl rfl (N9 (X9 (Q9 ?_)))))))))
 refine W_nilRow 2 5 1 ?_
 refine W_nilRow 3 5 1 ?_
 refine R9 (G9 rfl rfl (N9 (X9 (Q9 (R9 (M9 rfl rfl (L9 rfl (F9 1 rfl rfl) (L9 rfl (Pb9 (r:=101) rfl Tryz.isAgg3 rfl rfl rfl) (L9 rfl (Pu_min rfl rfl rfl) ?_)))))))))
 rw [Int.min_eq_left hto]
 refine (G9 rfl rfl (N9 (X9 ?_)))
 refine Q9 (Q9 (R9 (M9 rfl rfl (L9 rfl (Pn9 rfl rfl rfl (run_quo _ _ _ _ _ (by omega))) ?_))))
 rw [show (frm : Int) / 64 = ((frm / 64 : Nat) : Int) from rfl]
 refine (G9 rfl rfl (N9 (X9 ?_)))
 refine W_block ?_
 refine Wt9 (P':=rowB 5 (.slice none 0 0) []) 2 rfl (fun h hp => hp) ?_
 refine W_loop (α:=Nat × Nat × Value × List UInt8) (fun x => [(0,.map (some gm)),(2,.int .i64 (frm : Int)),(3,.int .i64 (to : Int)),(5,.pointer (some ⟨g101,0,none⟩)),(10,x.2.2.1),(11,.int .i64 (x.2.1 : Int))]) (fun x => [(0,F),(2,rowB 5 x.2.2.1 x.2.2.2),(3,rowP 5 1 (.slice none 0 0) 0 []),(101,blk g101 42 (ndC nd))]) (fun x => bytesA (vw ls) nd.2.1.toNat (lev nd.2.1) nd.2.2.2 frm to x.1 x.2.1 x.2.2.2 = bytesA (vw ls) nd.2.1.toNat (lev nd.2.1) nd.2.2.2 frm to (to + 1) (frm / 64) [] ∧ to < x.1 + x.2.1 ∧ frm / 64 ≤ x.2.1 ∧ x.2.2.2.length ≤ x.2.1 * 64 ∧ (frm < to ∨ x.2.2.2 = []) ∧ x.2.1 ≤ frm + to + 1) (fun x => x.1) ((to + 1,frm / 64,.slice none 0 0,[])) ⟨rfl,by dsimp only; omega,Nat.le_refl _,by simp,.inr rfl,by dsimp only; omega⟩ (a9 rfl) (a9 rfl) (fun x hx => ?_)
 obtain ⟨hx1,hx2,hx3,hx4,hx5,hx6⟩:=hx
 refine Q9 (Q9 (R9 (M9 rfl rfl (M9 rfl rfl (L9 rfl (Pn9 rfl rfl rfl (run_lss _ _ _ _ _ _)) (M9 rfl rfl (Lg9 rfl rfl rfl rfl (by decide) (fun hb => (Pm9 rfl rfl)) (Lg9 rfl rfl rfl rfl (by decide) (fun hb => (Pn9 rfl (ev_gv rfl hb) rfl (run_mul _ _ _ _ _ (by omega)))) (Lg9 rfl rfl rfl rfl (by decide) (fun hb => (Pm9 rfl rfl)) (Lg9 rfl rfl rfl rfl (by decide) (fun hb => (Pn9 rfl (ev_gv rfl hb) (ev_gv rfl hb) (run_lss _ _ _ _ _ _))) (L9 rfl (Pu_and rfl rfl rfl) (N9 (X9 ?_)))))))))))))
 refine C9 rfl (fun hc29 => ?_) (fun hc29 => ?_)
 ·
  have hft:=and_of29 hc29
  obtain ⟨f1,hf1⟩ : ∃ f1,x.1 = f1 + 1:=⟨x.1 - 1,by omega⟩
  refine K9 (X9 ?_)
  refine Q9 ?_
  refine W_block ?_
  refine Q9 ?_
  rcases Bool.eq_false_or_eq_true (decide ((rowV (vw ls) nd.2.1.toNat (lev nd.2.1) nd.2.2.2 x.2.1).2 = 0)) with hsp6 | hsp6
  ·
   have h0:=of_decide_eq_true hsp6
   refine R9 (M9 rfl rfl (L9 rfl (Px9 (r:=101) rfl Tryz.isAgg42 Tryz.sizeOf42 rfl rfl (ndC_length hnd.2.2.2.2) (load_all (ndC_length hnd.2.2.2.2))) (M9 rfl rfl (Lc9 rfl rfl (by decide) (Oc9 200 [0,2,3,101] [] rfl Tryz.call83 rfl rfl rfl (by decide) (by decide) (view_row gm ls _ (mapQ_star 0 rfl hM) (fun p0 hp0 => rs9 0 rfl (hL p0 hp0)) nd hnd x.2.1 (by omega)) (fun v36 Ps36 hR36 => ?_))))))
   obtain ⟨rfl,_,hgood⟩:=hR36; obtain ⟨p,hpm,rfl,hpb,hpl⟩:=hgood h0
   refine (M9 rfl rfl (L9 rfl (Pe9 rfl rfl rfl) (L9 rfl (Pe9 rfl rfl rfl) (G9 rfl rfl (G9 rfl rfl (N9 (X9 ?_)))))))
   refine Q9 (Q9 (R9 (M9 rfl rfl (L9 rfl (Pn9 rfl rfl rfl (run_neq _ _ _ _ _ _)) (N9 (X9 ?_))))))
   refine W_false rfl (rfl) ?_
   refine K9 (X9 ?_)
   refine Q9 (R9 (M9 rfl rfl (L9 rfl (Pn9 rfl rfl rfl (run_mul _ _ _ _ _ (by omega))) (G9 rfl rfl (N9 (X9 ?_))))))
   have hdl : (p.2.2.drop 1).length = min 64 (nd.2.1.toNat - x.2.1 * 64):=by rw [← hpb]; exact rowV_len h0
   obtain ⟨aa,haa⟩ : ∃ aa : Nat,aa = frm - x.2.1 * 64:=⟨_,rfl⟩
   obtain ⟨bb,hbb⟩ : ∃ bb : Nat,bb = min (to - x.2.1 * 64) (p.2.2.drop 1).length:=⟨_,rfl⟩
   have hab : aa ≤ bb:=by omega
   have hbm : bb ≤ (p.2.2.drop 1).length:=by omega
   obtain ⟨pc,hpc⟩ : ∃ pc : List UInt8,pc = ((p.2.2.drop 1).take bb).drop aa:=⟨_,rfl⟩
   have hpcl : pc.length ≤ 64:=by rw [hpc,List.length_drop,List.length_take]; omega
   have hpce : ((p.2.2.drop 1).drop aa).take (bb - aa) = pc:=by rw [hpc,List.drop_take]
   refine R9 (M9 rfl rfl (M9 rfl rfl (M9 rfl rfl (M9 rfl rfl (L9 rfl (Pn9 rfl rfl rfl (run_sub _ _ _ _ _ (by omega))) (L9 rfl (Pu_max rfl rfl rfl) ?_))))))
   rw [show max ((frm : Int) - (x.2.1 : Int) * 64) 0 = (aa : Int) by omega]
   refine (M9 rfl rfl (M9 rfl rfl (L9 rfl (Pn9 rfl rfl rfl (run_sub _ _ _ _ _ (by omega))) (M9 rfl rfl (L9 rfl (Pl9 (r:=0) rfl Tryz.runUnderlying36 rfl rfl (fun h hp => rdB_tail (hL p hpm h hp) hpl)) (L9 rfl (Pu_min rfl rfl rfl) ?_))))))
   rw [show min ((to : Int) - (x.2.1 : Int) * 64) (((p.2.2.drop 1).length : Nat) : Int) = (bb : Int) by omega]
   refine (L9 rfl (Pu_slice (r:=0) (a:=aa) (b:=bb) rfl Tryz.runUnderlying36 Tryz.sizeOf5 rfl rfl (fun h hp => rdB_tail (hL p hpm h hp) hpl) (.inr ⟨_,_,_,rfl,rfl,rfl⟩) (.inr ⟨_,_,_,rfl,rfl,rfl⟩) hab hbm) (Lc9 rfl rfl (by decide) (Oa9 (r:=2) (r2:=0) rfl Tryz.underlying36 TI.hi5 TI.hz5 TI.hs5 TI.hby5 TI.hzs5 (by decide) rfl rfl rfl rfl (fun h hp => rdB_subE (rdB_tail (hL p hpm h hp) hpl) hab hbm hpce) (bs_one _) (by unfold maxLen; omega) (by omega) (fun v57 => ?_))))
   refine Lt9 (P':=rowB 5 v57 (x.2.2.2 ++ pc)) (r:=2) rfl (fun h hp => rowB_mk hp (by rw [List.length_append]) (by rw [bs_append])) ?_
   refine (G9 rfl rfl (N9 (X_block (X9 ?_))))
   refine R9 (M9 rfl rfl (L9 rfl (Pn9 rfl rfl rfl (run_add _ _ _ _ _ (by omega))) (G9 rfl rfl (N9 ?_))))
   exact Xr9 (f1,x.2.1 + 1,v57,x.2.2.2 ++ pc) ⟨by rw [← hx1,hf1,bytesA_next hft.2 h0,hpb,hpc,haa,hbb],by dsimp only; omega,by dsimp only; omega,by dsimp only; rw [List.length_append]; omega,.inl hft.1,by dsimp only; omega⟩ (by dsimp only; omega) (a9 rfl) (a9 rfl)
  ·
   have h0:=of_decide_eq_false hsp6
   refine R9 (M9 rfl rfl (L9 rfl (Px9 (r:=101) rfl Tryz.isAgg42 Tryz.sizeOf42 rfl rfl (ndC_length hnd.2.2.2.2) (load_all (ndC_length hnd.2.2.2.2))) (M9 rfl rfl (Lc9 rfl rfl (by decide) (Oc9 200 [0,2,3,101] [] rfl Tryz.call83 rfl rfl rfl (by decide) (by decide) (view_row gm ls _ (mapQ_star 0 rfl hM) (fun p0 hp0 => rs9 0 rfl (hL p0 hp0)) nd hnd x.2.1 (by omega)) (fun v36 Ps36 hR36 => ?_))))))
   obtain ⟨rfl,hbad,_⟩:=hR36; have hv36:=hbad h0; subst hv36
   refine (M9 rfl rfl (L9 rfl (Pe9 rfl rfl rfl) (L9 rfl (Pe9 rfl rfl rfl) (G9 rfl rfl (G9 rfl rfl (N9 (X9 ?_)))))))
   refine Q9 (Q9 (R9 (M9 rfl rfl (L9 rfl (Pn9 rfl rfl rfl (run_neq _ _ _ _ _ _)) (N9 (X9 ?_))))))
   refine W_true rfl ((by simpa using h0)) ?_
   refine Q9 (R9 (M9 rfl rfl (G9 rfl rfl (G9 rfl rfl (N9 (X9 ?_))))))
   refine W_ret (X_then_ret (X_block_ret (X_then_ret (X_then_ret (X_block_ret (X_then_ret ?_))))))
   have hres : bytesV (vw ls) nd frm to = ([],(rowV (vw ls) nd.2.1.toNat (lev nd.2.1) nd.2.2.2 x.2.1).2):=by unfold bytesV; rw [if_pos hft.1,hLv,← hx1,hf1,bytesA_bad hft.2 h0]
   exact Xq9 [3] (Ps:=[_]) (res2 Tryz.results57 rfl rfl) rfl (by decide) ⟨.slice none 0 0,by rw [hres] <;> rfl,by rw [hres] <;> rfl⟩
 ·
  have hft:=nand_of29 hc29
  refine W_exit (X_then_exit (X_then_exit (X_block_exit (X9 ?_))))
  refine Q9 (R9 (M9 rfl rfl (G9 rfl rfl (G9 rfl rfl (N9 (X9 ?_))))))
  refine W_ret ?_
  have hres : bytesV (vw ls) nd frm to = (x.2.2.2,0):=by
   unfold bytesV
   by_cases hlt : frm < to
   ·rw [if_pos hlt,hLv,← hx1,bytesA_end (by omega)]
   ·rw [if_neg hlt]; rcases hx5 with h5 | h5
    ·exact absurd h5 hlt
    ·rw [h5]
  exact Xq9 [2] (Ps:=[_]) (res2 Tryz.results57 rfl rfl) rfl (by decide) ⟨x.2.2.1,by rw [hres] <;> rfl,by rw [hres] <;> rfl⟩
theorem view_folder (gm : Nat) (ls : List LB) (F : HP) (hM : ∀ h,F h → mapQ idV ok32 gm (entsL ls) none h) (hL : ∀ p ∈ ls,∀ h,F h → rdB p.2.1 p.2.2 h) (hT : ∀ h,F h → tabsP h) (nd : Nd) (hnd : NdOk nd) : CallsS Tryz.prog 56 #[.map (some gm),.agg (ndC nd).toArray] F [] (fun r Ps => ∃ v,r = .tuple #[v,.int .i64 ((dirV (vw ls) nd).2 : Int)] ∧ Ps = [rowE 122 v (dirV (vw ls) nd).1]):=by
 refine callsS_enter Tryz.func56 rfl Tryz.ntmps56 (by simp) (fun E => ?_)
 refine Q9 (R9 (Lc9 rfl rfl (by decide) (OpT_box (r:=101) rfl rfl rfl (fun g101 => (G9 rfl rfl (G9 rfl rfl (N9 (X9 (Q9 (Q9 ?_))))))))))
 refine W_nilRow 2 122 33 ?_
 refine R9 (L9 rfl (F9 0 rfl rfl) (L9 rfl (Pb9 (r:=101) rfl Tryz.isAgg3 rfl rfl rfl) (L9 rfl (Pn9 rfl rfl rfl (run_neq _ _ _ _ _ _)) (N9 (X9 ?_)))))
 refine C9 rfl (fun hc10 => ?_) (fun hc10 => ?_)
 ·
  have hres : dirV (vw ls) nd = ([],3):=by unfold dirV; rw [if_pos (by simpa using hc10)]
  refine Q9 (R9 (G9 rfl rfl (G9 rfl rfl (N9 (X9 ?_)))))
  refine W_ret (X_then_ret ?_)
  exact Xq9 [2] (Ps:=[_]) (res2 Tryz.results56 rfl rfl) rfl (by decide) ⟨.slice none 0 0,by rw [hres] <;> rfl,by rw [hres] <;> rfl⟩
 ·
  have hk2 : nd.1 = 2:=by simpa using hc10
  refine K9 (X9 ?_)
  refine Q9 (R9 (M9 rfl rfl (L9 rfl (Px9 (r:=101) rfl Tryz.isAgg42 Tryz.sizeOf42 rfl rfl (ndC_length hnd.2.2.2.2) (load_all (ndC_length hnd.2.2.2.2))) (L9 rfl (F9 1 rfl rfl) (L9 rfl (Pb9 (r:=101) rfl Tryz.isAgg3 rfl rfl (show (ndC nd)[1]? = some (.int .i64 ((nd.2.1.toNat : Nat) : Int)) by rw [Int.toNat_of_nonneg hnd.2.1]; rfl)) (Lc9 rfl rfl (by decide) (Oc9 200 [0,2,101] [] rfl Tryz.call57 rfl rfl rfl (by decide) (by decide) (view_bytes gm ls _ (mapQ_star 0 rfl hM) (fun p0 hp0 => rs9 0 rfl (hL p0 hp0)) nd hnd 0 nd.2.1.toNat (by have:=hnd.2.1; omega) (by decide)) (fun v16 Ps16 hR16 => ?_))))))))
  obtain ⟨w16,rfl,rfl⟩:=hR16
  skip
  refine (M9 rfl rfl (L9 rfl (Pe9 rfl rfl rfl) (L9 rfl (Pe9 rfl rfl rfl) (G9 rfl rfl (G9 rfl rfl (N9 (X9 ?_)))))))
  refine Q9 (Q9 (R9 (M9 rfl rfl (L9 rfl (Pn9 rfl rfl rfl (run_neq _ _ _ _ _ _)) (N9 (X9 ?_))))))
  refine C9 rfl (fun hc20 => ?_) (fun hc20 => ?_)
  ·
   have hb0 : (bytesV (vw ls) nd 0 nd.2.1.toNat).2 ≠ 0:=by simpa using hc20
   have hres : dirV (vw ls) nd = ([],(bytesV (vw ls) nd 0 nd.2.1.toNat).2):=by unfold dirV; rw [if_neg (fun h => h hk2),if_pos hb0]
   refine Q9 (R9 (M9 rfl rfl (G9 rfl rfl (G9 rfl rfl (N9 (X9 ?_))))))
   refine W_ret (X_then_ret ?_)
   exact Xq9 [2] (Ps:=[_]) (res2 Tryz.results56 rfl rfl) rfl (by decide) ⟨.slice none 0 0,by rw [hres] <;> rfl,by rw [hres] <;> rfl⟩
  ·
   have hb0 : (bytesV (vw ls) nd 0 nd.2.1.toNat).2 = 0:=by simpa using hc20
   have hres : dirV (vw ls) nd = par (bytesV (vw ls) nd 0 nd.2.1.toNat).1 []:=by unfold dirV; rw [if_neg (fun h => h hk2),if_neg (fun h => h hb0)]
   have hbl : (bytesV (vw ls) nd 0 nd.2.1.toNat).1.length ≤ 2000000:=by have h1:=bytesV_len (vw ls) nd 0 nd.2.1.toNat; have h2:=hnd.2.2.1; omega
   refine K9 (X9 ?_)
   refine Q9 (R9 (M9 rfl rfl (Lc9 rfl rfl (by decide) (Oc9 300 [0,2,101,200] [] rfl Tryz.call82 rfl rfl rfl (by decide) (by decide) (parseDir_spec w16 (bytesV (vw ls) nd 0 nd.2.1.toNat).1 hbl _ (rs9 3 rfl rowB_rd) (ts9 0 rfl hT)) (fun v23 Ps23 hR23 => ?_)))))
   obtain ⟨w23,rfl,rfl⟩:=hR23
   skip
   refine (L9 rfl (Pe9 rfl rfl rfl) (L9 rfl (Pe9 rfl rfl rfl) (G9 rfl rfl (G9 rfl rfl (N9 (X9 ?_))))))
   refine W_ret ?_
   exact Xq9 [300] (Ps:=[_]) (res2 Tryz.results56 rfl rfl) rfl (by decide) ⟨w23,by rw [hres] <;> rfl,by rw [hres] <;> rfl⟩
open Go.RowKit
set_option maxRecDepth 8000
section
variable {P : Program} {E : Env} {n : Nat} {K : Slots} {L : Res} {o : Oper} {C : Value → Res → Prop}
theorem OpT_callV {f : FuncId} {x : Operand} {cap : List Value} {xs : List Operand} {vs : List Value} {ts : Array TypeId} {R : Value → List HP → Prop} (b : Nat) (J Cs : List Nat) {Js Ps : List HP}
    (ho : o.op = .call { callee:=.value x,args:=xs.toArray,argTypes:=ts }) (hf : evK K x = some (.func (.func f) #[] cap.toArray)) (hc : ∀ args w,(callFunc f args).run P w = .ok (.enter f args) w) (hx : evL K xs = some vs)
    (hJ : lookL L J = some Js) (hC : lookL L Cs = some Ps) (hn : (J ++ Cs).Nodup) (hb : ∀ j ∈ J,j < b)
    (spec : CallsS P f (vs ++ cap).toArray (starL Js) Ps R) (k : ∀ v Ps',R v Ps' → C v (En b Ps' ++ zipR J Js)) : OpT P E n o K L C:=fun a w Kc Q hA hS hK => by
  have hargs:=evArgs hA (evL_map hx)
  have hrun : (execOp a.eval o).run P w = .ok (.enter f (vs ++ cap).toArray) w:=by
    have : (xs.toArray.map a.eval) = vs.toArray:=by simp [hargs]
    have h2 : vs.toArray ++ cap.toArray = (vs ++ cap).toArray:=by simp
    simp only [execOp,ho,resolve,hA.eval hf,this,Deferred.ofValue,Sem.run_bind,Sem.run_pure,Result.andThen_ok,invoke,Array.empty_append,hc,h2]
  unfold Oper.wp
  rw [hrun]
  refine (spec E w (hS.pack (.of hJ) (.of hC) hn)).mono fun e w' ⟨v,Ps',he,hR,hS'⟩ => ?_
  subst he
  exact hK _ _ _ (k v Ps' hR) (hS'.unpack b (List.nodup_append.1 hn).1 hb)
end
theorem cell_star {Js : List HP} {g : Nat} {t : TypeId} {cs : List Value} {v : Value} (k : Nat) (hk : Js[k]? = some (blk g t cs)) (hv : cs[0]? = some v) : ∀ h,starL Js h → cellH h ⟨g,0,none⟩ = some v:=fun h ⟨hs,h1,_,h3⟩ => by
  have h4:=h1 k _ hk
  unfold Proofs.YthkdkmaacjpneaaGreatDoor.blk at h4
  have h5:=h3 k _ _ h4
  simp only [cellH,h5]
  simpa using hv
theorem cell_up {Js : List HP} {P : HP} {g : Nat} {v : Value} (k : Nat) (hk : Js[k]? = some P) (hP : ∀ h,P h → cellH h ⟨g,0,none⟩ = some v) : ∀ h,starL Js h → cellH h ⟨g,0,none⟩ = some v:=fun h ⟨hs,h1,_,h3⟩ => by
  have h4:=hP _ (h1 k _ hk)
  simp only [cellH] at h4 ⊢
  cases hg : hs k g with
  | none => rw [hg] at h4; simp at h4
  | some o => rw [hg] at h4; rw [h3 k _ _ hg]; exact h4
theorem ent_node {es : List Ent} (hE : Ents es) {k : Nat} (hk : k < es.length) : ((recC entF es).drop (k * 33 + 1)).take 32 = bs (es.getD k ent0).2:=by
  have h:=ent_all hE hk
  have e : ((recC entF es).drop (k * 33 + 1)).take 32 = (((recC entF es).drop (k * 33)).take 33).drop 1:=by
    rw [List.drop_take,List.drop_drop]
  rw [e,h]
  rfl
def idxE (m : List UInt8) (es : List Ent) : Option Nat:=es.findIdx? fun x => decide (x.1 = m)
theorem idxE_find (m : List UInt8) : ∀ es : List Ent,match idxE m es with
    | none => es.find? (fun x => decide (x.1 = m)) = none
    | some i => i < es.length ∧ es.find? (fun x => decide (x.1 = m)) = some (es.getD i ent0)
  | [] => by simp [idxE]
  | x :: es => by
    have ih:=idxE_find m es
    unfold idxE at ih ⊢
    rw [List.findIdx?_cons]
    by_cases h : x.1 = m
    · simp [h]
    · simp only [h,decide_false,Bool.false_eq_true,if_false]
      cases hh : es.findIdx? (fun x => decide (x.1 = m)) with
      | none => rw [hh] at ih; simp [h,ih]
      | some i => rw [hh] at ih; simp [h,ih]
theorem idxE_step {m : List UInt8} {es : List Ent} {k : Nat} (hk : k < es.length) (h : idxE m es = (idxE m (es.drop k)).map (· + k)) (hne : ¬ (es.getD k ent0).1 = m) : idxE m es = (idxE m (es.drop (k + 1))).map (· + (k + 1)):=by
  rw [h,List.drop_eq_getElem_cons hk]
  have : ¬ es[k].1 = m:=by simpa [hk] using hne
  unfold idxE
  rw [List.findIdx?_cons]
  simp only [this,decide_false,Bool.false_eq_true,if_false,Option.map_map]
  congr 1
  funext a
  show a + 1 + k = _
  omega
theorem idxE_here {m : List UInt8} {es : List Ent} {k : Nat} (hk : k < es.length) (h : idxE m es = (idxE m (es.drop k)).map (· + k)) (he : (es.getD k ent0).1 = m) : idxE m es = some k:=by
  rw [h,List.drop_eq_getElem_cons hk]
  have : es[k].1 = m:=by simpa [hk] using he
  unfold idxE
  rw [List.findIdx?_cons]
  simp [this]
theorem idxE_end {m : List UInt8} {es : List Ent} {k : Nat} (hk : es.length ≤ k) (h : idxE m es = (idxE m (es.drop k)).map (· + k)) : idxE m es = none:=by
  rw [h,List.drop_of_length_le hk]
  rfl
def idxV (o : Option Nat) : Int:=match o with
  | none => -1
  | some i => (i : Int)
theorem beq_dec (a b : List UInt8) : (a == b) = decide (a = b):=by by_cases h : a = b <;> simp [h]
theorem entF_len {e : Ent} (h : e.2.length = 32) : (entF e).length = 33:=entC_length h
theorem not_decE {a : Int} (h : (!decide (a = 0)) = false) : a = 0:=by simpa using h
theorem dirV_ents (V : VW) (n : Nd) (hn : NdOk n) : Ents (dirV V n).1 ∧ (dirV V n).1.length ≤ 1000000000:=by
  unfold dirV
  split
  · exact ⟨Ents.nil,by simp⟩
  · split
    · exact ⟨Ents.nil,by simp⟩
    · have h1:=par_len _ (bytesV V n 0 n.2.1.toNat).1 [] (Nat.le_refl _)
      have h2:=bytesV_len V n 0 n.2.1.toNat
      have h3:=hn.2.2.1
      refine ⟨h1.2 Ents.nil,?_⟩
      have:=h1.1
      simp only [List.length_nil] at this
      omega
theorem clos_spec (e : Ent) (g : Nat) (m : List UInt8) (F : HP) (hC : ∀ h,F h → cellH h ⟨g,0,none⟩ = some (sV m)) : CallsS Tryz.prog 74 #[.agg (entF e).toArray,.pointer (some ⟨g,0,none⟩)] F [] (fun r Ps => r = .bool (decide (e.1 = m)) ∧ Ps = []):=by
 refine callsS_enter Tryz.func74 rfl Tryz.ntmps74 (by simp) (fun E => ?_)
 refine Q9 (R9 (Lc9 rfl rfl (by decide) (OpT_box (r:=101) rfl rfl rfl (fun g101 => (G9 rfl rfl (N9 (X9 (Q9 (R9 (L9 rfl (F9 0 rfl rfl) (L9 rfl (Pb9 (r:=101) rfl Tryz.isAgg9 rfl rfl rfl) (L9 rfl (Pu_load1 (r:=0) rfl Tryz.isAgg9 rfl rfl hC) (L9 rfl (Pn9 rfl rfl rfl (run_strEq _ _ _ _ _)) (G9 rfl rfl (N9 (X9 ?_))))))))))))))))
 refine W_ret ?_
 exact Xq9 [] (Ps:=[]) (res1 Tryz.results74 rfl) rfl (by decide) ⟨by rw [beq_dec],rfl⟩
theorem index_spec (v : Value) (es : List Ent) (hE : Ents es) (hel : es.length ≤ 1000000000) (g : Nat) (m : List UInt8) (F : HP) (hF : ∀ h,F h → rdE v es h) (hC : ∀ h,F h → cellH h ⟨g,0,none⟩ = some (sV m)) : CallsS Tryz.prog 73 #[v,.func (.func 74) #[] #[.pointer (some ⟨g,0,none⟩)]] F [] (fun r Ps => r = .int .i64 (idxV (idxE m es)) ∧ Ps = []):=by
 refine callsS_enter Tryz.func73 rfl Tryz.ntmps73 (by simp) (fun E => ?_)
 refine Q9 (R9 (G9 rfl rfl (N9 (X9 (Q9 (Q9 (R9 (M9 rfl rfl (L9 rfl (Pl9 (r:=0) rfl Tryz.runUnderlying118 rfl rfl hF) (M9 rfl rfl (N9 (X9 ?_))))))))))))
 refine W_block ?_
 refine W_loop (α:=Nat) (fun x => [(0,v),(1,.func (.func 74) #[] #[.pointer (some ⟨g,0,none⟩)]),(7,.int .i64 (es.length : Int)),(8,.int .i64 (x : Int))]) (fun x => [(0,F)]) (fun x => x ≤ es.length ∧ idxE m es = (idxE m (es.drop x)).map (· + x)) (fun x => es.length - x) (0) ⟨Nat.zero_le _,by simp⟩ (a9 rfl) ⟨rfl,trivial⟩ (fun x hx => ?_)
 obtain ⟨hx,hxi⟩:=hx
 refine Q9 (R9 (L9 rfl (Pn9 rfl rfl rfl (run_lss _ _ _ _ _ _)) (N9 (X9 (Q9 ?_)))))
 refine C9 rfl (fun hc9 => ?_) (fun hc9 => ?_)
 ·
  have hlt : x < es.length:=by have:=of_decide_eq_true hc9; omega
  refine K9 (X9 ?_)
  refine Q9 ?_
  refine W_block ?_
  refine Q9 (R9 (M9 rfl rfl (G9 rfl rfl (N9 (X9 (Q9 (R9 (M9 rfl rfl (M9 rfl rfl (M9 rfl rfl (L9 rfl (Pi9 (r:=0) rfl Tryz.runUnderlying118 Tryz.sizeOf122 rfl rfl rfl hF (by omega)) (L9 rfl (Pz9 (r:=0) rfl Tryz.isAgg122 Tryz.sizeOf122 rfl rfl hF (entF_len (hE.get hlt)) (by decide) (ent_all hE hlt)) (Lc9 rfl rfl (by decide) (OpT_callV (cap:=[.pointer (some ⟨g,0,none⟩)]) 200 [0] [] rfl rfl Tryz.call74 rfl rfl rfl (by decide) (by decide) (clos_spec (es.getD x ent0) g m _ (cell_up 0 rfl hC)) (fun v16 Ps16 hR16 => ?_)))))))))))))))
  obtain ⟨rfl,rfl⟩:=hR16
  refine (N9 (X9 ?_))
  refine C9 rfl (fun hc16 => ?_) (fun hc16 => ?_)
  ·
   have hres:=idxE_here hlt hxi (of_decide_eq_true hc16)
   refine Q9 (R9 (M9 rfl rfl (G9 rfl rfl (N9 (X9 ?_)))))
   refine W_ret (X_block_ret (X_then_ret (X_then_ret (X_block_ret (X_then_ret ?_)))))
   exact Xq9 [] (Ps:=[]) (res1 Tryz.results73 rfl) rfl (by decide) ⟨by rw [hres] <;> rfl,rfl⟩
  ·
   have hne:=of_decide_eq_false hc16
   refine K9 (X_block (X9 ?_))
   refine R9 (L9 rfl (Pn9 rfl rfl rfl (run_add _ _ _ _ _ (by omega))) (M9 rfl rfl (N9 ?_)))
   exact Xr9 (x + 1) ⟨by omega,idxE_step hlt hxi hne⟩ (by omega) (a9 rfl) ⟨rfl,trivial⟩
 ·
  have hge : es.length ≤ x:=by have:=of_decide_eq_false hc9; omega
  have hres:=idxE_end hge hxi
  refine W_exit (X_then_exit (X_then_exit (X_block_exit (X9 ?_))))
  refine Q9 (R9 (G9 rfl rfl (N9 (X9 ?_))))
  refine W_ret ?_
  exact Xq9 [] (Ps:=[]) (res1 Tryz.results73 rfl) rfl (by decide) ⟨by rw [hres] <;> rfl,rfl⟩
theorem view_find (gm : Nat) (ls : List LB) (F : HP) (hM : ∀ h,F h → mapQ idV ok32 gm (entsL ls) none h) (hL : ∀ p ∈ ls,∀ h,F h → rdB p.2.1 p.2.2 h) (hT : ∀ h,F h → tabsP h) (top path : List UInt8) (hid : top.length = 32) (hpl : path.length ≤ 1000000000) : CallsS Tryz.prog 44 #[.map (some gm),idV top,sV path] F [] (fun r Ps => r = .tuple #[.agg (ndC (pathV (vw ls) top path).1).toArray,.int .i64 (pathV (vw ls) top path).2] ∧ Ps = []):=by
 refine callsS_enter Tryz.func44 rfl Tryz.ntmps44 (by simp) (fun E => ?_)
 refine Q9 (R9 (Lc9 rfl rfl (by decide) (OpT_box (r:=101) rfl rfl rfl (fun g101 => (Lc9 rfl rfl (by decide) (OpT_alloc (r:=102) (cs:=(nodeC 0 0 0 zeroId)) rfl (zero_run (by kernel_rfl : (Tryz.prog.info? 42).bind (·.zero) = some (.agg (nodeC 0 0 0 zeroId).toArray))) rfl (fun g102 => (G9 rfl rfl (N9 (X9 (Q9 (R9 (M9 rfl rfl (Lc9 rfl rfl (by decide) (Oc9 200 [0,101,102] [] rfl Tryz.call36 rfl rfl rfl (by decide) (by decide) (split_nspec path (by omega) _ (ts9 0 rfl hT)) (fun v17 Ps17 hR17 => ?_))))))))))))))))
 obtain ⟨vs17,rfl,rfl⟩:=hR17
 skip
 refine (M9 rfl rfl (L9 rfl (Pe9 rfl rfl rfl) (L9 rfl (Pe9 rfl rfl rfl) (G9 rfl rfl (G9 rfl rfl (N9 (X9 ?_)))))))
 refine Q9 (Q9 (R9 (M9 rfl rfl (L9 rfl (Pn9 rfl rfl rfl (run_neq _ _ _ _ _ _)) (N9 (X9 ?_))))))
 refine C9 rfl (fun hc21 => ?_) (fun hc21 => ?_)
 ·
  have hs0 : (splitN path).2 ≠ 0:=by simpa using hc21
  have hres : pathV (vw ls) top path = (nd0,((splitN path).2 : Int)):=by unfold pathV; rw [if_pos hs0]
  refine Q9 (R9 (L9 rfl (Pu_build (V:=.agg (nodeC 0 0 0 zeroId).toArray) [(0,1),(1,1),(2,1),(3,32)] (nodeC 0 0 0 zeroId) rfl rfl (by kernel_rfl) (by kernel_rfl) (.nil _) rfl) (M9 rfl rfl (Lc09 rfl rfl (OpT_storeAll (r:=102) rfl Tryz.sizeOf42 rfl rfl rfl (nodeC_length zeroId_length) (nodeC_length zeroId_length) (one_node _ _ _ _) ?_)))))
  refine (G9 rfl rfl (N9 (X9 ?_)))
  refine W_ret (X_then_ret ?_)
  exact Xq9 [] (Ps:=[]) (resC2 (r:=102) Tryz.results44 rfl rfl Tryz.isAgg42 Tryz.sizeOf42 rfl (nodeC_length zeroId_length)) rfl (by decide) ⟨by rw [hres] <;> rfl,rfl⟩
 ·
  have hs0 : (splitN path).2 = 0:=by simpa using hc21
  have hsl:=splitN_len path
  refine K9 (X9 ?_)
  refine Q9 (R9 (M9 rfl rfl (L9 rfl (Px9 (r:=101) rfl Tryz.isAgg29 Tryz.sizeOf29 rfl rfl ((bs_length _).trans hid) (load_all ((bs_length _).trans hid))) (Lc9 rfl rfl (by decide) (Oc9 300 [0,101,102,200] [] rfl Tryz.call58 rfl rfl rfl (by decide) (by decide) (view_inode gm ls _ (mapQ_star 0 rfl hM) (fun p0 hp0 => rs9 0 rfl (hL p0 hp0)) top hid) (fun v27 Ps27 hR27 => ?_))))))
  obtain ⟨rfl,rfl⟩:=hR27
  refine (M9 rfl rfl (L9 rfl (Pe9 rfl rfl rfl) (L9 rfl (Pe9 rfl rfl rfl) (Lc9 rfl rfl (by decide) (OpT_alloc (r:=301) (cs:=(nodeC 0 0 0 zeroId)) rfl (zero_run (by kernel_rfl : (Tryz.prog.info? 42).bind (·.zero) = some (.agg (nodeC 0 0 0 zeroId).toArray))) rfl (fun g301 => (Lc09 rfl rfl (OpT_storeAll (r:=301) rfl Tryz.sizeOf42 rfl rfl rfl (nodeC_length zeroId_length) (ndC_length (inodeV_top _ _)) (one_node _ _ _ _) ?_))))))))
  refine (G9 rfl rfl (N9 (X9 ?_)))
  refine Q9 (Q9 (R9 (M9 rfl rfl (L9 rfl (Pl9 (r:=200) rfl Tryz.runUnderlying63 rfl rfl rowS_rd) (M9 rfl rfl (N9 (X9 ?_)))))))
  refine W_block ?_
  refine W_loop (α:=Nat × Nd × Int) (fun x => [(0,.map (some gm)),(6,.pointer (some ⟨g102,0,none⟩)),(9,.int .i64 x.2.2),(10,.pointer (some ⟨g301,0,none⟩)),(30,vs17),(31,.int .i64 ((splitN path).1.length : Int)),(32,.int .i64 (x.1 : Int))]) (fun x => [(0,F),(200,rowS 9 vs17 (splitN path).1),(102,blk g102 42 (nodeC 0 0 0 zeroId)),(301,blk g301 42 (ndC x.2.1))]) (fun x => x.1 ≤ (splitN path).1.length ∧ x.2.1.2.2.2.length = 32 ∧ (x.2.2 = 0 → NdOk x.2.1) ∧ pathV (vw ls) top path = (if x.2.2 ≠ 0 then (nd0,x.2.2) else findV (vw ls) ((splitN path).1.drop x.1) x.2.1)) (fun x => (splitN path).1.length - x.1) ((0,(inodeV (vw ls) top).1,(inodeV (vw ls) top).2)) ⟨Nat.zero_le _,inodeV_top _ _,inodeV_ok,by unfold pathV; rw [if_neg (fun h => h hs0)]; rfl⟩ (a9 rfl) (a9 rfl) (fun x hx => ?_)
  obtain ⟨hx1,hx2,hx3,hx4⟩:=hx
  refine Q9 (R9 (L9 rfl (Pn9 rfl rfl rfl (run_lss _ _ _ _ _ _)) (N9 (X9 (Q9 ?_)))))
  refine C9 rfl (fun hc33 => ?_) (fun hc33 => ?_)
  ·
   have hlt : x.1 < (splitN path).1.length:=by have:=of_decide_eq_true hc33; omega
   obtain ⟨m,hm⟩ : ∃ m,m = (splitN path).1.getD x.1 []:=⟨_,rfl⟩
   have hgm : (splitN path).1[x.1] = m:=by rw [hm]; simp [hlt]
   refine K9 (X9 ?_)
   refine Q9 ?_
   refine W_block ?_
   refine Q9 (R9 (L9 rfl (Pu_idxS1 (r:=200) rfl Tryz.runUnderlying63 Tryz.sizeOf9 rfl rfl rfl rowS_rd (by omega)) (L9 rfl (Py9 (r:=200) rfl Tryz.isAgg9 rfl rfl rowS_rd (ss_at (k:=x.1) hlt)) ?_)))
   rw [← hm]
   refine (Lc9 rfl rfl (by decide) (OpT_alloc (r:=302) rfl Tryz.zeroValue9 rfl (fun g302 => (Lc09 rfl rfl (OpT_storeB1 (r:=302) rfl Tryz.sizeOf9 rfl rfl rfl rfl (by decide) (show _ = [sV m] from rfl) ?_)))))
   refine (N9 (X9 ?_))
   refine Q9 (Q9 (R9 (M9 rfl rfl (L9 rfl (Pn9 rfl rfl rfl (run_neq _ _ _ _ _ _)) (N9 (X9 ?_))))))
   refine C9 rfl (fun hc37 => ?_) (fun hc37 => ?_)
   ·
    have he0 : x.2.2 ≠ 0:=by simpa using hc37
    have hres : pathV (vw ls) top path = (nd0,x.2.2):=by rw [hx4,if_pos he0]
    refine W_exit (X_then_exit (X_block_out (by decide) (X_then_exit (X_then_exit (X_block_exit (X9 ?_))))))
    refine Q9 (Q9 (R9 (M9 rfl rfl (L9 rfl (Pn9 rfl rfl rfl (run_neq _ _ _ _ _ _)) (N9 (X9 ?_))))))
    refine W_true rfl (hc37) ?_
    refine Q9 (R9 (L9 rfl (Pu_build (V:=.agg (nodeC 0 0 0 zeroId).toArray) [(0,1),(1,1),(2,1),(3,32)] (nodeC 0 0 0 zeroId) rfl rfl (by kernel_rfl) (by kernel_rfl) (.nil _) rfl) (M9 rfl rfl (Lc09 rfl rfl (OpT_storeAll (r:=102) rfl Tryz.sizeOf42 rfl rfl rfl (nodeC_length zeroId_length) (nodeC_length zeroId_length) (one_node _ _ _ _) ?_)))))
    refine (G9 rfl rfl (N9 (X9 ?_)))
    refine W_ret (X_then_ret ?_)
    exact Xq9 [] (Ps:=[]) (resC2 (r:=102) Tryz.results44 rfl rfl Tryz.isAgg42 Tryz.sizeOf42 rfl (nodeC_length zeroId_length)) rfl (by decide) ⟨by rw [hres] <;> rfl,rfl⟩
   ·
    have he0 : x.2.2 = 0:=not_decE hc37
    refine K9 (X9 ?_)
    refine Q9 (R9 (G9 rfl rfl (N9 (X9 (Q9 (Q9 (R9 (M9 rfl rfl (L9 rfl (Px9 (r:=301) rfl Tryz.isAgg42 Tryz.sizeOf42 rfl rfl (ndC_length hx2) (load_all (ndC_length hx2))) (Lc9 rfl rfl (by decide) (Oc9 400 [0,102,200,301,302] [] rfl Tryz.call56 rfl rfl rfl (by decide) (by decide) (view_folder gm ls _ (mapQ_star 0 rfl hM) (fun p0 hp0 => rs9 0 rfl (hL p0 hp0)) (ts9 0 rfl hT) x.2.1 (hx3 he0)) (fun v41 Ps41 hR41 => ?_))))))))))))
    obtain ⟨w41,rfl,rfl⟩:=hR41
    skip
    refine (M9 rfl rfl (L9 rfl (Pe9 rfl rfl rfl) (L9 rfl (Pe9 rfl rfl rfl) (G9 rfl rfl (G9 rfl rfl (N9 (X9 ?_)))))))
    refine Q9 (R9 (M9 rfl rfl (L9 rfl (Pn9 rfl rfl rfl (run_neq _ _ _ _ _ _)) (N9 (X9 ?_)))))
    refine C9 rfl (fun hc45 => ?_) (fun hc45 => ?_)
    ·
     have hd0 : (dirV (vw ls) x.2.1).2 ≠ 0:=by simpa using hc45
     have hres : pathV (vw ls) top path = (nd0,((dirV (vw ls) x.2.1).2 : Int)):=by rw [hx4,if_neg (fun h => h he0),List.drop_eq_getElem_cons hlt,findV,if_pos hd0]
     refine W_exit (X_then_exit (X_block_out (by decide) (X_then_exit (X_then_exit (X_block_exit (X9 ?_))))))
     refine Q9 (Q9 (R9 (M9 rfl rfl (L9 rfl (Pn9 rfl rfl rfl (run_neq _ _ _ _ _ _)) (N9 (X9 ?_))))))
     refine W_true rfl (hc45) ?_
     refine Q9 (R9 (L9 rfl (Pu_build (V:=.agg (nodeC 0 0 0 zeroId).toArray) [(0,1),(1,1),(2,1),(3,32)] (nodeC 0 0 0 zeroId) rfl rfl (by kernel_rfl) (by kernel_rfl) (.nil _) rfl) (M9 rfl rfl (Lc09 rfl rfl (OpT_storeAll (r:=102) rfl Tryz.sizeOf42 rfl rfl rfl (nodeC_length zeroId_length) (nodeC_length zeroId_length) (one_node _ _ _ _) ?_)))))
     refine (G9 rfl rfl (N9 (X9 ?_)))
     refine W_ret (X_then_ret ?_)
     exact Xq9 [] (Ps:=[]) (resC2 (r:=102) Tryz.results44 rfl rfl Tryz.isAgg42 Tryz.sizeOf42 rfl (nodeC_length zeroId_length)) rfl (by decide) ⟨by rw [hres] <;> rfl,rfl⟩
    ·
     have hd0 : (dirV (vw ls) x.2.1).2 = 0:=by simpa using hc45
     obtain ⟨es,hdes⟩ : ∃ es,(dirV (vw ls) x.2.1).1 = es:=⟨_,rfl⟩
     have hdd:=dirV_ents (vw ls) x.2.1 (hx3 he0)
     rw [hdes] at hdd
     obtain ⟨hE,hel⟩:=hdd
     rw [hdes]
     have hif:=idxE_find m es
     refine K9 (X9 ?_)
     refine Q9 (R9 (M9 rfl rfl (L9 rfl (Pu_makeFunc rfl rfl) (Lc9 rfl rfl (by decide) (Oc9 500 [0,102,200,301,302,400] [] rfl Tryz.call73 rfl rfl rfl (by decide) (by decide) (index_spec w41 es hE hel g302 m _ (rs9 5 rfl rowR_rd) (cell_star 4 rfl rfl)) (fun v48 Ps48 hR48 => ?_))))))
     obtain ⟨rfl,rfl⟩:=hR48
     refine (G9 rfl rfl (N9 (X9 ?_)))
     refine Q9 (Q9 ?_)
     rcases Bool.eq_false_or_eq_true ((idxE m es).isSome) with hsp13 | hsp13
     ·
      obtain ⟨i,hi⟩:=is_some_T hsp13
      rw [hi] at hif
      rw [hi]
      simp only [idxV]
      refine R9 (M9 rfl rfl (L9 rfl (Pn9 rfl rfl rfl (run_lss _ _ _ _ _ _)) (N9 (X9 ?_))))
      refine W_false rfl ((decide_eq_false (by omega))) ?_
      refine K9 (X9 ?_)
      refine R9 (M9 rfl rfl (M9 rfl rfl (M9 rfl rfl (L9 rfl (Pi9 (r:=400) rfl Tryz.runUnderlying118 Tryz.sizeOf122 rfl rfl rfl rowR_rd (by have:=hif.1; omega)) (L9 rfl (Pu_fieldAddrE (off:=1) rfl rfl (by kernel_rfl)) (L9 rfl (Pz9 (r:=400) rfl Tryz.isAgg29 Tryz.sizeOf29 rfl rfl rowR_rd ((bs_length _).trans (hE.get hif.1)) (by decide) (ent_node hE hif.1)) (Lc9 rfl rfl (by decide) (Oc9 600 [0,102,200,301,302,400] [] rfl Tryz.call58 rfl rfl rfl (by decide) (by decide) (view_inode gm ls _ (mapQ_star 0 rfl hM) (fun p0 hp0 => rs9 0 rfl (hL p0 hp0)) (es.getD i ent0).2 (hE.get hif.1)) (fun v59 Ps59 hR59 => ?_)))))))))
      obtain ⟨rfl,rfl⟩:=hR59
      refine (M9 rfl rfl (L9 rfl (Pe9 rfl rfl rfl) (L9 rfl (Pe9 rfl rfl rfl) (Lc09 rfl rfl (OpT_storeAll (r:=301) rfl Tryz.sizeOf42 rfl rfl rfl (ndC_length hx2) (ndC_length (inodeV_top _ _)) (one_node _ _ _ _) ?_)))))
      refine (G9 rfl rfl (N9 (X_block (X9 ?_))))
      refine R9 (L9 rfl (Pn9 rfl rfl rfl (run_add _ _ _ _ _ (by omega))) (M9 rfl rfl (N9 ?_)))
      exact Xr9 (x.1 + 1,(inodeV (vw ls) (es.getD i ent0).2).1,(inodeV (vw ls) (es.getD i ent0).2).2) ⟨by dsimp only; omega,inodeV_top _ _,inodeV_ok,by rw [hx4,if_neg (fun h => h he0),List.drop_eq_getElem_cons hlt,findV,if_neg (fun h => h hd0),hgm,hdes,hif.2]⟩ (by dsimp only; omega) (a9 rfl) (a9 rfl)
     ·
      have hi:=is_none_F hsp13
      rw [hi] at hif
      rw [hi]
      simp only [idxV]
      have hres : pathV (vw ls) top path = (nd0,2):=by rw [hx4,if_neg (fun h => h he0),List.drop_eq_getElem_cons hlt,findV,if_neg (fun h => h hd0),hgm,hdes,hif]
      refine R9 (M9 rfl rfl (L9 rfl (Pn9 rfl rfl rfl (run_lss _ _ _ _ _ _)) (N9 (X9 ?_))))
      refine W_true rfl (rfl) ?_
      refine Q9 (R9 (L9 rfl (Pu_build (V:=.agg (nodeC 0 0 0 zeroId).toArray) [(0,1),(1,1),(2,1),(3,32)] (nodeC 0 0 0 zeroId) rfl rfl (by kernel_rfl) (by kernel_rfl) (.nil _) rfl) (Lc09 rfl rfl (OpT_storeAll (r:=102) rfl Tryz.sizeOf42 rfl rfl rfl (nodeC_length zeroId_length) (nodeC_length zeroId_length) (one_node _ _ _ _) ?_))))
      refine (G9 rfl rfl (N9 (X9 ?_)))
      refine W_ret (X_then_ret (X_block_ret (X_then_ret (X_then_ret (X_block_ret (X_then_ret ?_))))))
      exact Xq9 [] (Ps:=[]) (resC2 (r:=102) Tryz.results44 rfl rfl Tryz.isAgg42 Tryz.sizeOf42 rfl (nodeC_length zeroId_length)) rfl (by decide) ⟨by rw [hres] <;> rfl,rfl⟩
  ·
   have hge : (splitN path).1.length ≤ x.1:=by have:=of_decide_eq_false hc33; omega
   refine W_exit (X_then_exit (X_then_exit (X_block_exit (X9 ?_))))
   refine Q9 (Q9 (R9 (M9 rfl rfl (L9 rfl (Pn9 rfl rfl rfl (run_neq _ _ _ _ _ _)) (N9 (X9 ?_))))))
   refine C9 rfl (fun hc64 => ?_) (fun hc64 => ?_)
   ·
    have he0 : x.2.2 ≠ 0:=by simpa using hc64
    have hres : pathV (vw ls) top path = (nd0,x.2.2):=by rw [hx4,if_pos he0]
    refine Q9 (R9 (L9 rfl (Pu_build (V:=.agg (nodeC 0 0 0 zeroId).toArray) [(0,1),(1,1),(2,1),(3,32)] (nodeC 0 0 0 zeroId) rfl rfl (by kernel_rfl) (by kernel_rfl) (.nil _) rfl) (M9 rfl rfl (Lc09 rfl rfl (OpT_storeAll (r:=102) rfl Tryz.sizeOf42 rfl rfl rfl (nodeC_length zeroId_length) (nodeC_length zeroId_length) (one_node _ _ _ _) ?_)))))
    refine (G9 rfl rfl (N9 (X9 ?_)))
    refine W_ret (X_then_ret ?_)
    exact Xq9 [] (Ps:=[]) (resC2 (r:=102) Tryz.results44 rfl rfl Tryz.isAgg42 Tryz.sizeOf42 rfl (nodeC_length zeroId_length)) rfl (by decide) ⟨by rw [hres] <;> rfl,rfl⟩
   ·
    have he0 : x.2.2 = 0:=not_decE hc64
    have hres : pathV (vw ls) top path = (x.2.1,0):=by rw [hx4,if_neg (fun h => h he0),List.drop_of_length_le hge]; rfl
    refine K9 (X9 ?_)
    refine Q9 (R9 (L9 rfl (Px9 (r:=301) rfl Tryz.isAgg42 Tryz.sizeOf42 rfl rfl (ndC_length hx2) (load_all (ndC_length hx2))) (Lc09 rfl rfl (OpT_storeAll (r:=102) rfl Tryz.sizeOf42 rfl rfl rfl (nodeC_length zeroId_length) (ndC_length hx2) (one_node _ _ _ _) ?_))))
    refine (G9 rfl rfl (N9 (X9 ?_)))
    refine W_ret ?_
    exact Xq9 [] (Ps:=[]) (resC2 (r:=102) Tryz.results44 rfl rfl Tryz.isAgg42 Tryz.sizeOf42 rfl (ndC_length hx2)) rfl (by decide) ⟨by rw [hres] <;> rfl,rfl⟩
end Go.Proofs.YthkdkmaacjpneaaGreatDoor
