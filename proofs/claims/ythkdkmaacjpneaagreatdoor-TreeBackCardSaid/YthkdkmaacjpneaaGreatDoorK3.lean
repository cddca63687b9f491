/- Texts of this proof, one behind the other: BlobH, BlobI, Blob2, Blob3, Blob4, Dir0, Sl15, NamesC, DirB, DirC, DirD, Dir1, LibN, NamesB, NamesD, Tree0, MapQ, Rf, ChunkL, TreeA, MapPut, Tree1, TreeB. -/
import Derived.Test.YthkdkmaacjpneaaGreatDoorK2
import Derived.Test.YthkdkmaacjpneaaGreatDoorK1
import Derived.Laws.StructEq
import Derived.Deep.AppendSrc
import Derived.Lib.AppendZerosOnto
import Derived.Deep.Upon
import Derived.Shelf.Strings.Split
import Derived.Shelf.Strings.Prefix
import Derived.Shelf.Strings.OnBuilder
import Derived.Maps.RangeRun
import Derived.RangeFuncLeaves
import Derived.RangeFuncSeq
import Derived.OwnWalkIn
set_option linter.unusedVariables false
set_option linter.unusedSimpArgs false
set_option linter.unusedSectionVars false
namespace Go.Proofs.YthkdkmaacjpneaaGreatDoor
open Go.RowKit
set_option maxRecDepth 8000

theorem parseInner_spec (v:Value) (l:List UInt8) (F:HP) (hF:∀ h,F h→rdB v l h):CallsS Tryz.prog 119 #[v] F [] (fun r Ps=>∃ v',r = .tuple #[v',.int .i64 (parseNE l)]∧Ps=[rowI 29 v' (parseNL l)]):=by
 refine callsS_enter Tryz.func119 rfl Tryz.ntmps119 (by simp) (fun E=>?_)
 refine Q9 (R9 (G9 rfl rfl (G9 rfl rfl (N9 (X9 (Q9 (Q9 (R9 (M9 rfl rfl (L9 rfl (Pl9 (r:=0) rfl Tryz.runUnderlying36 rfl rfl hF) (L9 rfl (Pn9 rfl rfl rfl (run_lss _ _ _ _ _ _)) (N9 (X9 ?_)))))))))))))
 refine C9 rfl (fun hc10=>?_) (fun hc10=>?_)
 ·
  refine Q9 (R9 (G9 rfl rfl (G9 rfl rfl (N9 (X9 ?_)))))
  refine W_ret (X_then_ret ?_)
  have hE:=parseNE_cut hc10
  refine X_nilRow 9900 29 32 ?_
  exact Xq9 [9900] (Ps:=[_]) (res2 Tryz.results119 rfl rfl) rfl (by decide) ⟨_,by rw [hE],by rw [parseNL_err hE (by decide)]; rfl⟩
 ·
  have h2:2≤l.length:=by have:=of_decide_eq_false hc10; omega
  have hx1:=(at0 l 1).toNat_lt
  refine K9 (X9 ?_)
  refine Q9 (R9 (M9 rfl rfl (L9 rfl (Pu_idxS1 (r:=0) rfl Tryz.runUnderlying36 Tryz.sizeOf5 rfl rfl rfl hF (by omega)) (L9 rfl (Py9 (r:=0) rfl Tryz.isAgg5 rfl rfl hF (bs_at1 (k:=1) (by omega))) (L9 rfl (Pu_conv rfl rfl (conv_u8 _ Tryz.runUnderlying5 Tryz.runUnderlying3)) (G9 rfl rfl (N9 (X9 (Q9 (R9 (M9 rfl rfl (L9 rfl (Pn9 rfl rfl rfl (run_mul _ _ _ _ _ (by omega))) (L9 rfl (Pn9 rfl rfl rfl (run_add _ _ _ _ _ (by omega))) (G9 rfl rfl (N9 (X9 (Q9 ?_)))))))))))))))))
  refine W_block ?_
  refine Q9 (R9 (M9 rfl rfl (L9 rfl (Pu_idxS1 (r:=0) rfl Tryz.runUnderlying36 Tryz.sizeOf5 rfl rfl rfl hF (by omega)) (L9 rfl (Py9 (r:=0) rfl Tryz.isAgg5 rfl rfl hF (bs_at1 (k:=0) (by omega))) (L9 rfl (Pn9 rfl rfl rfl (run_neq _ _ _ _ _ _)) (M9 rfl rfl (Lg9 rfl rfl rfl rfl (by decide) (fun hb=>(Pm9 rfl rfl)) (Lg9 rfl rfl rfl rfl (by decide) (fun hb=>(Pn9 rfl (ev_gv rfl hb) rfl (run_lss _ _ _ _ _ _))) (L9 rfl (Pu_or rfl rfl rfl) (M9 rfl rfl (Lg9 rfl rfl rfl rfl (by decide) (fun hb=>(Pm9 rfl rfl)) (Lg9 rfl rfl rfl rfl (by decide) (fun hb=>(Pn9 rfl (ev_gv rfl hb) rfl (run_gtr _ _ _ _ _ _))) (L9 rfl (Pu_or rfl rfl rfl) (G9 rfl rfl (N9 (X9 ?_))))))))))))))))
  refine C9 rfl (fun hc18=>?_) (fun hc18=>?_)
  ·
   refine Q9 (R9 (G9 rfl rfl (G9 rfl rfl (N9 (X9 ?_)))))
   refine W_ret (X_block_ret (X_then_ret ?_))
   have hE:=parseNE_bad hc10 hc18
   refine X_nilRow 9900 29 32 ?_
   exact Xq9 [9900] (Ps:=[_]) (res2 Tryz.results119 rfl rfl) rfl (by decide) ⟨_,by rw [hE],by rw [parseNL_err hE (by decide)]; rfl⟩
  ·
   obtain ⟨g0,g1,g8⟩:=parseN_good hc18
   refine Q9 (R9 (M9 rfl rfl (L9 rfl (Pl9 (r:=0) rfl Tryz.runUnderlying36 rfl rfl hF) (M9 rfl rfl (L9 rfl (Pn9 rfl rfl rfl (run_lss _ _ _ _ _ _)) (G9 rfl rfl (N9 (X9 ?_))))))))
   refine C9 rfl (fun hc31=>?_) (fun hc31=>?_)
   ·
    have hlt:=of_decide_eq_true hc31
    refine Q9 (R9 (G9 rfl rfl (G9 rfl rfl (N9 (X9 ?_)))))
    refine W_ret (X_block_ret (X_then_ret ?_))
    have hE:=(parseNE_later hc10 hc18).trans (if_pos (by omega))
    refine X_nilRow 9900 29 32 ?_
    exact Xq9 [9900] (Ps:=[_]) (res2 Tryz.results119 rfl rfl) rfl (by decide) ⟨_,by rw [hE],by rw [parseNL_err hE (by decide)]; rfl⟩
   ·
    have hge:=of_decide_eq_false hc31
    refine Q9 (R9 (M9 rfl rfl (L9 rfl (Pl9 (r:=0) rfl Tryz.runUnderlying36 rfl rfl hF) (M9 rfl rfl (L9 rfl (Pn9 rfl rfl rfl (run_gtr _ _ _ _ _ _)) (G9 rfl rfl (N9 (X9 ?_))))))))
    refine C9 rfl (fun hc36=>?_) (fun hc36=>?_)
    ·
     have hgt:=of_decide_eq_true hc36
     refine Q9 (R9 (G9 rfl rfl (G9 rfl rfl (N9 (X9 ?_)))))
     refine W_ret (X_block_ret (X_then_ret ?_))
     have hE:=(parseNE_later hc10 hc18).trans ((if_neg (by omega)).trans (if_pos (by omega)))
     refine X_nilRow 9900 29 32 ?_
     exact Xq9 [9900] (Ps:=[_]) (res2 Tryz.results119 rfl rfl) rfl (by decide) ⟨_,by rw [hE],by rw [parseNL_err hE (by decide)]; rfl⟩
    ·
     have hle:=of_decide_eq_false hc36
     have hlen:l.length=2 + (at0 l 1).toNat * 32:=by omega
     refine K9 (X_block (X9 ?_))
     refine Q9 (R9 (M9 rfl rfl (Lc9 rfl rfl (by decide) (OpT_make (r:=101) (m:=(at0 l 1).toNat) rfl Tryz.underlying165 TI.hi29 TI.hz29 TI.hs29 rfl rfl (by rw [TI.hby29]; omega) (by unfold maxLen; omega) (made_ids _) (fun v42=>?_)))))
     refine (G9 rfl rfl (N9 (X9 ?_)))
     refine Q9 (Q9 (R9 (M9 rfl rfl (L9 rfl (Pl9 (r:=101) rfl Tryz.runUnderlying165 rfl rfl (fun _ h=>rp9 h)) (M9 rfl rfl (N9 (X9 ?_)))))))
     refine W_block ?_
     refine W_loop (α:=Nat) (fun k=>[(0,v),(4,.int .i64 ((at0 l 1).toNat:Int)),(6,v42),(44,.int .i64 ((at0 l 1).toNat:Int)),(45,.int .i64 (k:Int))]) (fun k=>[(0,F),(101,rowI 29 v42 (idsTo l (at0 l 1).toNat k))]) (fun k=>k≤(at0 l 1).toNat) (fun k=>(at0 l 1).toNat - k) (0) (Nat.zero_le _) ⟨rfl,rfl,rfl,rfl,rfl,trivial⟩ ⟨rfl,look_eq rfl (by rw [idsTo_zero]; exact rowI_of _ (by simp) rfl),trivial⟩ (fun x hx=>?_)
     unfold rowI
     refine Q9 (R9 (L9 rfl (Pn9 rfl rfl rfl (run_lss _ _ _ _ _ _)) (N9 (X9 (Q9 ?_)))))
     refine C9 rfl (fun hc46=>?_) (fun hc46=>?_)
     ·
      have hlt:x < (at0 l 1).toNat:=by have:=of_decide_eq_true hc46; omega
      have hil:=idsTo_length l (Nat.le_of_lt hlt)
      have hii:Ids (idsTo l (at0 l 1).toNat x):=idsTo_ids (by omega)
      have hx32:((l.drop (2 + x * 32)).take 32).length=32:=by simp; omega
      refine K9 (X9 ?_)
      refine Q9 ?_
      refine W_block ?_
      refine Q9 (R9 (M9 rfl rfl (G9 rfl rfl (N9 (X9 ?_)))))
      refine W_draw (N:=10) (by kernel_rfl) rfl [(0,_)] ⟨rfl,trivial⟩ ?_
      refine (T9 0 rfl rfl (Pm9 rfl rfl) (T9 1 rfl rfl (Pm9 rfl rfl) (T9 4 rfl rfl (Pm9 rfl rfl) (T9 5 rfl rfl (Pm9 rfl rfl) (T9 6 rfl rfl (Pn9 rfl rfl rfl (run_mul _ _ _ _ _ (by omega))) (T9 7 rfl rfl (Pn9 rfl rfl rfl (run_add _ _ _ _ _ (by omega))) (T9 8 rfl rfl (Pu_slice (r:=0) (a:=2 + x * 32) (b:=l.length) rfl Tryz.runUnderlying36 Tryz.sizeOf5 rfl rfl hF (.inr ⟨_,_,_,rfl,rfl,(by omega)⟩) (.inl ⟨rfl,rfl⟩) (by omega) (Nat.le_refl _)) (Y9 [2] ?_))))))))
      refine Z9 rfl rfl (Or9 (Pi9 (r:=101) rfl Tryz.runUnderlying165 Tryz.sizeOf29 rfl rfl rfl (fun _ h=>rp9 h) (by rw [hil]; omega)) ⟨⟨rfl,trivial⟩,?_⟩) ?_
      ·
       refine (T9 3 rfl rfl (Pu_sliceArrE rfl Tryz.runUnderlying29 Tryz.sizeOf5 rfl) (Y9 [9] ?_))
       refine Z9 rfl rfl (OpT_copyS (r:=101) (r2:=0) rfl Tryz.underlying36 TI.hsm5 rfl rfl rfl rfl (fun h hp=>rdB_tail (hF h hp) (by omega)) (bs_one _) (by rw [idsC_length hii,hil]; simp; omega) (idsC_step (k:=x) hii (by rw [hil]; exact hlt) (by simp; omega)) ?_) ?_
       ·
        refine ⟨⟨rfl,trivial⟩,?_⟩
        refine (Ad9 (by kernel_rfl) (X_block (X9 ?_)))
        refine R9 (L9 rfl (Pn9 rfl rfl rfl (run_add _ _ _ _ _ (by omega))) (M9 rfl rfl (N9 ?_)))
        exact Xr9 (x + 1) (by show x + 1≤_; omega) (by show _ - (x + 1) < _; omega) ⟨rfl,rfl,rfl,rfl,rfl,trivial⟩ ⟨rfl,look_eq rfl (by rw [idsTo_set hlt]; exact rowI_of _ (by rw [idsTo_length l (show x + 1≤_ from hlt),idsTo_length l (Nat.le_of_lt hlt)]) rfl),trivial⟩
       exact An9
      exact An9
     ·
      obtain rfl:x=(at0 l 1).toNat:=by have:=of_decide_eq_false hc46; omega
      refine W_exit (X_then_exit (X_then_exit (X_block_exit (X9 ?_))))
      refine Q9 (R9 (M9 rfl rfl (G9 rfl rfl (G9 rfl rfl (N9 (X9 ?_))))))
      refine W_ret ?_
      have hE:=(parseNE_later hc10 hc18).trans ((if_neg (by omega)).trans (if_neg (by omega)))
      exact Xq9 [101] (Ps:=[_]) (res2 Tryz.results119 rfl rfl) rfl (by decide) ⟨_,by rw [hE],by rw [parseNL,if_pos hE,← idsTo_all]⟩
open Go.RowKit
set_option maxRecDepth 8000

end Go.Proofs.YthkdkmaacjpneaaGreatDoor
namespace Go.Proofs.YthkdkmaacjpneaaGreatDoor
def turnTo (x:List UInt8) (a:List Int) (y:List UInt8):Nat→List UInt8
  | 0=>x
  | k + 1=>(turnTo x a y k).set (a.getD k 0 % ((turnTo x a y k).length:Int)).toNat (at0 (turnTo x a y k) (a.getD k 0 % ((turnTo x a y k).length:Int)).toNat + at0 y k)
def turnN (x:List UInt8) (a:List Int) (y:List UInt8):Nat:=if x.length=0 then 0 else min (min a.length y.length) 3
def turned (x:List UInt8) (a:List Int) (y:List UInt8):List UInt8:=turnTo x a y (turnN x a y)
open Go.RowKit
theorem at0_append_left {a b:List UInt8} {k:Nat} (h:k < a.length):at0 (a++b) k=at0 a k:=by simp [at0,List.getElem?_append_left h]
theorem val_append {a b:List UInt8}:∀ k,k≤a.length→val (a++b) k=val a k
  | 0,_=>rfl
  | k + 1,h=>by rw [val,val,val_append k (by omega),at0_append_left (by omega)]
theorem val_num (s:Int) (h0:0≤s) (h1:s < 4294967296):(val (numB s 4) 4:Int)=s:=by
  rw [numB_four,val_four]
  have e:∀ k:Nat,s.fdiv (2 ^ k)=s / 2 ^ k:=fun k=>Int.fdiv_eq_ediv_of_nonneg _ (by apply Int.pow_nonneg; omega)
  have e24:=byte_toNat (s.fdiv (2 ^ 24))
  have e16:=byte_toNat (s.fdiv (2 ^ 16))
  have e8:=byte_toNat (s.fdiv (2 ^ 8))
  have e0:=byte_toNat s
  rw [e,show (2:Int) ^ 24=16777216 from by decide] at e24
  rw [e,show (2:Int) ^ 16=65536 from by decide] at e16
  rw [e,show (2:Int) ^ 8=256 from by decide] at e8
  show (((byte (s.fdiv (2 ^ 24))).toNat * 2 ^ 24 + (byte (s.fdiv (2 ^ 16))).toNat * 2 ^ 16 + (byte (s.fdiv (2 ^ 8))).toNat * 2 ^ 8 + (byte s).toNat:Nat):Int)=s
  rw [e,e,e,show (2:Int) ^ 24=16777216 from by decide,show (2:Int) ^ 16=65536 from by decide,show (2:Int) ^ 8=256 from by decide]
  omega
theorem byte_small {n:Int} (h0:0≤n) (h1:n < 256):((byte n).toNat:Int)=n:=by rw [byte_toNat]; omega
theorem lev_le (s:Int):lev s≤7:=by
  unfold lev
  repeat' split
  all_goals omega
theorem wrong_zero {k s l:Int} {top:List UInt8} (h:wrongN k s l top=0):(k=1∨k=2)∧0≤s∧s≤1048576∧l=(lev s:Int):=by
  unfold wrongN at h
  split at h
  · cases h
  · split at h
    · cases h
    · rename_i h1 h2
      unfold wrongB at h2
      simp at h2
      omega
theorem parse_inode {k s l:Int} {top:List UInt8} (ht:top.length=32) (h:wrongN k s l top=0):parseI (inodeB k s l top)=((k,s,l,top),0):=by
  obtain ⟨hk,hs0,hs1,hl⟩:=wrong_zero h
  have hll:=lev_le s
  have hlen:(inodeB k s l top).length=39:=by simp [inodeB,numB_length,ht]
  have e1:at0 (inodeB k s l top) 0=105:=by simp [inodeB,at0]
  have e2:((at0 (inodeB k s l top) 1).toNat:Int)=k:=by
    have:at0 (inodeB k s l top) 1=byte k:=by simp [inodeB,at0]
    rw [this]
    exact byte_small (by omega) (by omega)
  have d2:(inodeB k s l top).drop 2=numB s 4++([byte l]++top):=by simp [inodeB]
  have e3:(val ((inodeB k s l top).drop 2) 4:Int)=s:=by
    rw [d2,val_append 4 (by rw [numB_length]; omega)]
    exact val_num s hs0 (by omega)
  have e4:((at0 (inodeB k s l top) 6).toNat:Int)=l:=by
    have:at0 (inodeB k s l top) 6=byte l:=by
      rw [inodeB,numB_four]
      simp [at0]
    rw [this]
    exact byte_small (by omega) (by omega)
  have e5:((inodeB k s l top).drop 7).take 32=top:=by
    rw [inodeB,numB_four]
    simp [← ht]
  have hp:parsed (inodeB k s l top)=(k,s,l,top):=by unfold parsed; rw [e2,e3,e4,e5]
  unfold parseI
  rw [if_neg (by omega),hp,if_neg (by simp [e1,h]),if_neg (by omega)]
theorem innerE_zero {l:List (List UInt8)} (h:innerE l=0):1≤l.length∧l.length≤8:=by
  unfold innerE at h
  split at h
  · cases h
  · split at h
    · cases h
    · omega
theorem flat_drop {l:List (List UInt8)} (h:Ids l):∀ i,i < l.length→(l.flatten.drop (i * 32)).take 32=l.getD i []:=by
  induction l with
  | nil=>intro i hi; simp at hi
  | cons x l ih =>
    intro i hi
    have hx:=h x (by simp)
    cases i with
    | zero=>simp [← hx]
    | succ i =>
      have:=ih (fun y hy=>h y (by simp [hy])) i (by simpa using hi)
      rw [List.flatten_cons,show (i + 1) * 32=x.length + i * 32 by rw [hx]; omega,← List.drop_drop,List.drop_left,this]
      rfl
theorem parse_inner {l:List (List UInt8)} (hl:Ids l) (h:innerE l=0):parseNE (innerR l)=0∧parseNL (innerR l)=l:=by
  obtain ⟨h1,h2⟩:=innerE_zero h
  have hR:innerR l=[110,byte l.length]++l.flatten:=by unfold innerR; rw [if_pos h,innerTo,List.take_length]
  have hlen:(innerR l).length=2 + l.length * 32:=by rw [hR]; simp [flat_ids hl]; omega
  have e0:at0 (innerR l) 0=110:=by rw [hR]; rfl
  have e1:(at0 (innerR l) 1).toNat=l.length:=by
    have:at0 (innerR l) 1=byte l.length:=by rw [hR]; rfl
    rw [this]
    have:=byte_small (n:=(l.length:Int)) (by omega) (by omega)
    omega
  have hE:parseNE (innerR l)=0:=by
    unfold parseNE
    rw [if_neg (by omega),if_neg (by rintro (h | h | h); exact h e0; omega; omega),if_neg (by omega),if_neg (by omega)]
  refine ⟨hE,?_⟩
  unfold parseNL
  rw [if_pos hE,e1]
  unfold idsOf
  apply List.ext_getElem?
  intro i
  rw [List.getElem?_map]
  by_cases hi:i < l.length
  · rw [List.getElem?_range hi,List.getElem?_eq_getElem hi,Option.map_some,hR,← List.drop_drop]
    have:=flat_drop hl i hi
    simp [hi] at this
    simp [this]
  · rw [List.getElem?_eq_none (by simpa using hi),List.getElem?_eq_none (by omega)]
    rfl
theorem parseNL_ids (b:List UInt8):Ids (parseNL b)∧(parseNL b).length≤8:=by
  unfold parseNL
  split
  · rename_i h
    unfold parseNE at h
    split at h
    · cases h
    · split at h
      · cases h
      · split at h
        · cases h
        · split at h
          · cases h
          · exact ⟨idsOf_ids (by omega),by rw [idsOf_length]; omega⟩
  · exact ⟨fun x hx=>by simp at hx,by simp⟩
theorem parseI_top (b:List UInt8):(parseI b).1.2.2.2.length=32:=by
  unfold parseI
  repeat' split
  all_goals first | rfl | (simp [parsed]; omega)
end Go.Proofs.YthkdkmaacjpneaaGreatDoor
namespace Go.Proofs.YthkdkmaacjpneaaGreatDoor
end Go.Proofs.YthkdkmaacjpneaaGreatDoor
namespace Go.Proofs.YthkdkmaacjpneaaGreatDoor
open Go.RowKit Go.Lib
set_option maxRecDepth 8000
theorem less_irr:∀ a:List UInt8,Op.bytesLess a a=false
  | []=>rfl
  | x::l=>by simp [Op.bytesLess,less_irr l]
theorem less_tri:∀ a b:List UInt8,(!Op.bytesLess a b)=(Op.bytesLess b a || b == a)
  | [],[]=>rfl
  | [],y::m=>rfl
  | x::l,[]=>rfl
  | x::l,y::m=>by
    have ih:=less_tri l m
    simp only [Op.bytesLess]
    rcases Nat.lt_trichotomy x.toNat y.toNat with h | h | h
    · have h1:x < y:=UInt8.lt_iff_toNat_lt.2 h
      have h2:¬ y < x:=fun hc=>by have:=UInt8.lt_iff_toNat_lt.1 hc; omega
      have h3:(y == x)=false:=by simp; intro hc; subst hc; omega
      have h4:(y::m == x::l)=false:=by simp; intro hc; subst hc; omega
      simp [h1,h2,h3,h4]
    · have h0:x=y:=UInt8.toNat_inj.1 h
      subst h0
      have h1:¬ x < x:=fun hc=>by have:=UInt8.lt_iff_toNat_lt.1 hc; omega
      have h4:(x::m == x::l)=(m == l):=by simp
      simp [h1,h4,ih]
    · have h1:y < x:=UInt8.lt_iff_toNat_lt.2 h
      have h2:¬ x < y:=fun hc=>by have:=UInt8.lt_iff_toNat_lt.1 hc; omega
      have h3:(x == y)=false:=by simp; intro hc; subst hc; omega
      simp [h1,h2,h3]
def nms (es:List Ent):List (List UInt8):=es.map (·.1)
theorem nms_length (es:List Ent):(nms es).length=es.length:=by simp [nms]
theorem nms_at {es:List Ent} {k:Nat} (h:k < es.length):(nms es).getD k []=(es.getD k ent0).1:=by simp [nms,h]
def riseP (ns:List (List UInt8)) (k:Nat):Prop:=∀ j,j < k→1≤j→Op.bytesLess (ns.getD (j - 1) []) (ns.getD j [])=true
instance (ns:List (List UInt8)) (k:Nat):Decidable (riseP ns k):=by unfold riseP; infer_instance
theorem riseP_succ {ns:List (List UInt8)} {k:Nat} (h:riseP ns k) (h1:1≤k→Op.bytesLess (ns.getD (k - 1) []) (ns.getD k [])=true):riseP ns (k + 1):=fun j hj hj1=>by
  rcases Nat.lt_or_ge j k with hlt | hge
  · exact h j hlt hj1
  · obtain rfl:j=k:=by omega
    exact h1 hj1
theorem riseP_not {ns:List (List UInt8)} {k m:Nat} (hk:1≤k) (hm:k < m) (h:Op.bytesLess (ns.getD (k - 1) []) (ns.getD k [])=false):¬ riseP ns m:=fun hr=>by
  have:=hr k hm hk
  rw [h] at this; cases this
def dirE (es:List Ent):Nat:=if firstBad (nms es)≠0 then firstBad (nms es) else if ¬ riseP (nms es) es.length then 1 else if 20 < es.length then 4 else 0
theorem dirE_bad {es:List Ent} (h:firstBad (nms es)≠0):dirE es=firstBad (nms es):=by unfold dirE; rw [if_pos h]
theorem dirE_fall {es:List Ent} (h:firstBad (nms es)=0) (h2:¬ riseP (nms es) es.length):dirE es=1:=by unfold dirE; rw [if_neg (fun hc=>hc h),if_pos h2]
theorem dirE_many {es:List Ent} (h:firstBad (nms es)=0) (h2:riseP (nms es) es.length) (h3:20 < es.length):dirE es=4:=by unfold dirE; rw [if_neg (fun hc=>hc h),if_neg (fun hc=>hc h2),if_pos h3]
theorem dirE_ok {es:List Ent} (h:firstBad (nms es)=0) (h2:riseP (nms es) es.length) (h3:¬ 20 < es.length):dirE es=0:=by unfold dirE; rw [if_neg (fun hc=>hc h),if_neg (fun hc=>hc h2),if_neg h3]
def entB (e:Ent):List UInt8:=[byte (e.1.length:Int)]++e.1++e.2
def dirTo (es:List Ent) (k:Nat):List UInt8:=((es.take k).map entB).flatten
def dirB (es:List Ent):List UInt8:=(es.map entB).flatten
theorem dirTo_succ {es:List Ent} {k:Nat} (h:k < es.length):dirTo es (k + 1)=dirTo es k++[byte ((es.getD k ent0).1.length:Int)]++(es.getD k ent0).1++(es.getD k ent0).2:=by
  unfold dirTo
  rw [List.take_add_one,List.map_append,List.flatten_append]
  simp [List.getElem?_eq_getElem h,entB]
theorem dirTo_all (es:List Ent):dirTo es es.length=dirB es:=by simp [dirTo,dirB]
theorem dirTo_len {es:List Ent} {b:Nat} (hE:Ents es) (hb:∀ e ∈ es,e.1.length≤b) (k:Nat):(dirTo es k).length≤(b + 33) * es.length:=by
  have key:∀ ls:List Ent,(∀ e ∈ ls,e.2.length=32)→(∀ e ∈ ls,e.1.length≤b)→((ls.map entB).flatten).length≤(b + 33) * ls.length:=by
    intro ls
    induction ls with
    | nil=>intro _ _; simp
    | cons e ls ih =>
      intro h1 h2
      have i1:=ih (fun x hx=>h1 x (by simp [hx])) (fun x hx=>h2 x (by simp [hx]))
      have a1:=h1 e (by simp)
      have a2:=h2 e (by simp)
      simp only [List.map_cons,List.flatten_cons,List.length_append,entB,List.length_cons,List.length_nil] at i1 ⊢
      rw [Nat.mul_add]
      omega
  have h1:=key (es.take k) (fun e he=>hE e (List.mem_of_mem_take he)) (fun e he=>hb e (List.mem_of_mem_take he))
  have h2:(es.take k).length≤es.length:=by simp; omega
  exact Nat.le_trans h1 (Nat.mul_le_mul_left _ h2)
def dirR (es:List Ent):List UInt8:=if dirE es=0 then dirB es else []
def finP (acc:List Ent):List Ent × Nat:=if dirE acc≠0 then ([],dirE acc) else (acc,0)
def need (b:List UInt8):Nat:=1 + (at0 b 0).toNat + 32
def entOf (b:List UInt8):Ent:=((b.drop 1).take (at0 b 0).toNat,(b.drop (1 + (at0 b 0).toNat)).take 32)
def parF:Nat→List UInt8→List Ent→List Ent × Nat
  | 0,_,acc=>finP acc
  | f + 1,b,acc=>if b=[] then finP acc else if b.length < need b then ([],8) else parF f (b.drop (need b)) (acc++[entOf b])
theorem parF_fuel:∀ (f g:Nat) (b:List UInt8) (acc:List Ent),b.length≤f→b.length≤g→parF f b acc=parF g b acc
  | 0,0,_,_,_,_=>rfl
  | 0,g + 1,b,acc,h,_=>by
    have:b=[]:=List.eq_nil_of_length_eq_zero (by omega)
    subst this; simp [parF]
  | f + 1,0,b,acc,_,h=>by
    have:b=[]:=List.eq_nil_of_length_eq_zero (by omega)
    subst this; simp [parF]
  | f + 1,g + 1,b,acc,h1,h2=>by
    simp only [parF]
    split
    · rfl
    · split
      · rfl
      · exact parF_fuel f g _ _ (by unfold need; simp; omega) (by unfold need; simp; omega)
def par (b:List UInt8) (acc:List Ent):List Ent × Nat:=parF b.length b acc
theorem par_nil (acc:List Ent):par [] acc=finP acc:=rfl
theorem par_cut {b:List UInt8} (hb:b≠[]) (h:b.length < need b) (acc:List Ent):par b acc=([],8):=by
  unfold par
  cases b with
  | nil=>exact absurd rfl hb
  | cons x b=>rw [List.length_cons,parF,if_neg hb,if_pos h]
theorem par_next {b:List UInt8} (hb:b≠[]) (h:¬ b.length < need b) (acc:List Ent):par b acc=par (b.drop (need b)) (acc++[entOf b]):=by
  unfold par
  cases b with
  | nil=>exact absurd rfl hb
  | cons x b =>
    rw [List.length_cons,parF,if_neg hb,if_neg h]
    refine parF_fuel _ _ _ _ ?_ (Nat.le_refl _)
    have h2:1≤need (x::b):=by unfold need; omega
    rw [List.length_drop,List.length_cons]
    omega
theorem entOf_id {b:List UInt8} (h:¬ b.length < need b):(entOf b).2.length=32:=by
  unfold need at h
  simp [entOf]; omega
theorem Ents.snoc {es:List Ent} (h:Ents es) {e:Ent} (he:e.2.length=32):Ents (es++[e]):=fun x hx=>by
  rcases List.mem_append.1 hx with hx | hx
  · exact h x hx
  · simp at hx; subst hx; exact he
theorem Ents.nil:Ents []:=fun x hx=>by cases hx
theorem finP_len (acc:List Ent):(finP acc).1.length≤acc.length:=by unfold finP; split <;> simp
theorem par_len:∀ (n:Nat) (b:List UInt8) (acc:List Ent),b.length≤n→(par b acc).1.length≤acc.length + b.length∧(Ents acc→Ents (par b acc).1)
  | n,b,acc,h=>by
    by_cases hb:b=[]
    · subst hb
      rw [par_nil]
      refine ⟨by have:=finP_len acc; simpa using this,fun hE=>?_⟩
      unfold finP; split
      · exact Ents.nil
      · exact hE
    · by_cases hl:b.length < need b
      · rw [par_cut hb hl]; exact ⟨by simp,fun _=>Ents.nil⟩
      · rw [par_next hb hl]
        have hn1:33≤need b:=by unfold need; omega
        have hb0:0 < b.length:=List.length_pos_iff.2 hb
        match n,h with
        | 0,h=>omega
        | n + 1,h =>
          obtain ⟨i1,i2⟩:=par_len n (b.drop (need b)) (acc++[entOf b]) (by simp; omega)
          refine ⟨?_,fun hE=>i2 (hE.snoc (entOf_id hl))⟩
          simp only [List.length_append,List.length_cons,List.length_nil,List.length_drop] at i1
          omega
theorem par_entB {e:Ent} (h1:e.1.length < 256) (h2:e.2.length=32) (rest:List UInt8) (acc:List Ent):par (entB e++rest) acc=par rest (acc++[e]):=by
  have hb:(byte (e.1.length:Int)).toNat=e.1.length:=by have:=byte_toNat (e.1.length:Int); omega
  have ha:at0 (entB e++rest) 0=byte (e.1.length:Int):=rfl
  have hn:need (entB e++rest)=1 + e.1.length + 32:=by unfold need; rw [ha,hb]
  have hl:(entB e).length=1 + e.1.length + 32:=by simp [entB,h2]; omega
  have ho:entOf (entB e++rest)=e:=by
    unfold entOf
    rw [ha,hb]
    have hd1:(entB e++rest).drop 1=e.1++(e.2++rest):=by simp [entB]
    have hd2:(entB e++rest).drop (1 + e.1.length)=e.2++rest:=by
      rw [← List.drop_drop,hd1,List.drop_left]
    rw [hd1,hd2,List.take_left,← h2,List.take_left]
  rw [par_next (by simp [entB]) (by rw [hn,List.length_append,hl]; omega),ho,hn,← hl,List.drop_left]
theorem par_dirB {es:List Ent} (hE:Ents es) (hn:∀ e ∈ es,e.1.length < 256):∀ acc,par (dirB es) acc=finP (acc++es):=by
  induction es with
  | nil=>intro acc; rw [List.append_nil]; rfl
  | cons e es ih =>
    intro acc
    rw [show dirB (e::es)=entB e++dirB es from rfl,par_entB (hn e (by simp)) (hE e (by simp)),ih (fun x hx=>hE x (by simp [hx])) fun x hx=>hn x (by simp [hx]),List.append_assoc]
    rfl
theorem chk_len:∀ (n:Nat) (l:List UInt8) (k:Nat) (bad:Bool),l.length≤n→chk l k bad=0→l.length + 4 * k≤48
  | n,l,k,bad,hn,h=>by
    by_cases hl:l=[]
    · subst hl
      rw [chk_nil] at h
      unfold finC at h
      split at h
      · cases h
      · split at h
        · cases h
        · simp; omega
    · cases hno:noRune l with
      | true=>rw [chk_none hl hno] at h; cases h
      | false =>
        rw [chk_some hl hno] at h
        have hw:=decodeL_width l
        have hle:=decodeL_le l hl
        have h4:(decodeL l).2≤4:=by
          rw [decodeL_N]
          rcases decodeN_shape l.length (l.getD 0 0).toNat (l.getD 1 0).toNat (l.getD 2 0).toNat (l.getD 3 0).toNat with ⟨_,e⟩ | ⟨_,_,_,_,e⟩ | ⟨_,_,_,_,_,_,e⟩ | ⟨_,_,_,_,_,_,_,e⟩ | e <;> rw [e] <;> simp
        match n,hn with
        | 0,hn=>exact absurd (List.eq_nil_of_length_eq_zero (by omega)) hl
        | n + 1,hn =>
          have:=chk_len n (l.drop (decodeL l).2) (k + 1) _ (by simp; omega) h
          rw [List.length_drop] at this
          omega
theorem check_len {l:List UInt8} (h:checkN l=0):l.length≤48:=by have:=chk_len l.length l 0 _ (Nat.le_refl _) h; omega
theorem firstBad_zero {ns:List (List UInt8)} (h:firstBad ns=0):∀ x ∈ ns,checkN x=0:=by
  induction ns with
  | nil=>intro x hx; cases hx
  | cons y r ih =>
    rw [firstBad] at h
    by_cases hy:checkN y≠0
    · rw [if_pos hy] at h; exact absurd h hy
    · rw [if_neg hy] at h
      intro x hx
      rcases List.mem_cons.1 hx with rfl | hx
      · omega
      · exact ih h x hx
theorem firstBad_all {ns:List (List UInt8)} (h:∀ x ∈ ns,checkN x=0):firstBad ns=0:=by
  induction ns with
  | nil=>rfl
  | cons y r ih=>rw [firstBad,if_neg (by rw [h y (by simp)]; simp),ih fun x hx=>h x (by simp [hx])]
theorem dirE_zero {es:List Ent} (h:dirE es=0):(∀ e ∈ es,e.1.length≤48)∧es.length≤20:=by
  unfold dirE at h
  split at h
  · rename_i h1; exact absurd h h1
  · rename_i h1
    split at h
    · cases h
    · split at h
      · cases h
      · refine ⟨fun e he=>check_len (firstBad_zero (by omega:firstBad (nms es)=0) e.1 (List.mem_map.2 ⟨e,he,rfl⟩)),by omega⟩
theorem par_dirR {es:List Ent} (hE:Ents es) (h:dirE es=0):par (dirR es) []=(es,0):=by
  unfold dirR
  rw [if_pos h,par_dirB hE (fun e he=>by have:=(dirE_zero h).1 e he; omega),List.nil_append]
  unfold finP
  rw [if_neg (fun hc=>hc h)]
open Go.RowKit
section
variable {P:Program} {w:World}
theorem own_append {R:Result Value} {e:TypeId} {i:TypeInfo} {z:Value} (hzs:z.cells.size=i.size) (hsz:0 < i.size) {v:Value} {n:Nat} {xs:List Value} (hown:w.ownsRow 0 e i.size v n xs) {m:Nat} {news:List Value} (hl:news.length=m * i.size) (h63:n + m≤maxLen)
    (hroom:∀ g cap cur,v = .slice (some ⟨g,0,none⟩) n cap→w.heap[g]?=some (.cells cur e (0,0))→n + m≤cap→n * i.size + news.length≤cur.size→R = .ok (.slice (some ⟨g,0,none⟩) (n + m) cap) (w.setRow g (cur.toList.take (n * i.size)++news++cur.toList.drop (n * i.size + news.length)).toArray))
    (hgrow:∀ ba cap,v = .slice ba n cap→cap < n + m→(Builtin.firstCells i.size n v).run P w.drew = .ok xs.toArray w.drew→R = .ok (.slice (some ⟨w.heap.size,0,none⟩) (n + m) (grownCap w (n + m) cap e)) (w.drew.alloc (.cells (xs.toArray++news.toArray++Builtin.zeroCells z.cells (grownCap w (n + m) cap e - (n + m))) e)))
    (hnone:m=0→v = .slice none 0 0→R = .ok (.slice none 0 0) w) :
    ∃ v' w',R = .ok v' w'∧w'.ownsRow 0 e i.size v' (n + m) (xs++news)∧Chg v.ownBlock.toList w w'∧(v'.ownBlock=v.ownBlock∨v'.ownBlock=some w.heap.size):=by
  have hlen:(xs++news).length=(n + m) * i.size:=by rw [List.length_append,hown.1,hl,Nat.add_mul]
  have grown:∀ (old:Nat),old < n + m → 
      (w.drew.alloc (.cells (xs.toArray++news.toArray++Builtin.zeroCells z.cells (grownCap w (n + m) old e - (n + m))) e)).ownsRow 0 e i.size
        (.slice (some ⟨w.heap.size,0,none⟩) (n + m) (grownCap w (n + m) old e)) (n + m) (xs++news):=by
    intro old ho
    have hge:=grownCap_ge w (n + m) old e
    have hcm:grownCap w (n + m) old e≤maxLen:=grownCap_le_maxLen w (n + m) old e h63
    refine ⟨hlen,.inr ⟨w.heap.size,_,_,rfl,Nat.zero_le _,heap_alloc_new w.drew _,hge,hcm,?_,?_⟩⟩
    · simp only [Array.size_append,List.size_toArray,size_zeroCells,hzs,hown.1,hl,← Nat.add_mul]
      congr 1
      omega
    · simp only [Array.toList_append,List.append_assoc]
      rw [← List.append_assoc,← hlen]
      exact List.take_left
  have hch:∀ (cs:Array Value) (bl:List Nat),Chg bl w (w.drew.alloc (.cells cs e)):=fun cs bl=>⟨rfl,rfl,rfl,by simp,fun k hk _=>heap_alloc_old w.drew _ hk⟩
  rcases hown.2 with ⟨rfl,rfl⟩ | ⟨g,cap,cur,rfl,hbg,hg,hnc,hcm,hcs,htake⟩
  · have hx:xs=[]:=List.eq_nil_of_length_eq_zero (by simpa using hown.1)
    subst hx
    by_cases hm:m=0
    · subst hm
      have hn:news=[]:=List.eq_nil_of_length_eq_zero (by simpa using hl)
      subst hn
      exact ⟨.slice none 0 0,w,hnone rfl rfl,World.ownsRow_nil w 0 e i.size,Chg.refl _ _,.inl rfl⟩
    · have hr:=hgrow none 0 rfl (by omega) (run_firstCells_none w.drew i.size 0 0 0)
      exact ⟨_,_,hr,grown 0 (by omega),hch _ _,.inr rfl⟩
  · by_cases hroom':n + m≤cap
    · have hfit:n * i.size + news.length≤cur.size:=by rw [hl,hcs,← Nat.add_mul]; exact Nat.mul_le_mul_right _ hroom'
      have hr:=hroom g cap cur rfl hg hroom' hfit
      refine ⟨_,_,hr,⟨hlen,.inr ⟨g,cap,_,rfl,hbg,setRow_heap w g cur _ e _ hg,hroom',hcm,?_,?_⟩⟩,⟨rfl,rfl,rfl,by simp [World.setRow],fun k _ hk=>setRow_other w g k _ (by simpa [Value.ownBlock] using hk)⟩,.inl rfl⟩
      · simp only [List.size_toArray,List.length_append,List.length_take,List.length_drop,Array.length_toList]
        omega
      · rw [htake,← hlen]
        exact List.take_left
    · have holds:∀ j u,xs[j]?=some u→w.cell? ((⟨g,0,none⟩:Addr).add j)=some u:=hown.cells (g:=g) rfl
      have hr:=hgrow (some ⟨g,0,none⟩) cap rfl (by omega) (run_firstCells_some w.drew i.size n ⟨g,0,none⟩ n cap xs hown.1 (by simpa using holds))
      exact ⟨_,_,hr,grown cap (by omega),hch _ _,.inr rfl⟩
theorem run_append_str (t tx ty e:TypeId) (i:TypeInfo) (z:Value) (ht:P.underlying t=some (.slice e)) (hk:P.underlying tx=some .string) (hi:P.info? e=some i) (hz:i.zero=some z) (hsize:i.size=1) (hby:i.bytes=1) (hzs:z.cells.size=1)
    {v:Value} {n:Nat} {xs:List Value} (hown:w.ownsRow 0 e 1 v n xs) (l:List UInt8) (h63:n + l.length≤maxLen) (hbytes:n + l.length≤140737488355328) :
    ∃ v' w',(Builtin.append_ #[t,tx] ty #[v,sV l]).run P w = .ok v' w'∧w'.ownsRow 0 e 1 v' (n + l.length) (xs++bs l)∧Chg v.ownBlock.toList w w'∧(v'.ownBlock=v.ownBlock∨v'.ownBlock=some w.heap.size):=by
  have hb:byteCells (strB l)=bs l:=by simp [byteCells,strB,bs,bv]
  have hsl:(strB l).size=l.length:=strB_size l
  have hsrc:=Src.ofString (P:=P) w hk (strB l)
  rw [hb,hsl] at hsrc
  have hown':w.ownsRow 0 e i.size v n xs:=by rw [hsize]; exact hown
  have:=own_append (P:=P) (R:=(Builtin.append_ #[t,tx] ty #[v,sV l]).run P w) (z:=z) (by rw [hzs,hsize]) (by omega) hown' (m:=l.length) (news:=bs l) (by rw [bs_length,hsize,Nat.mul_one]) h63
    (fun g cap cur hv hg hroom hfit=>by
      subst hv
      have hst:=run_storeCells_at P g (n * i.size) e (bs l) 0 cur w hg (by simpa using hfit) (bs_one _)
      simp only [Nat.add_zero] at hst
      have hf:(Builtin.firstCells i.size l.length (sV l)).run P w = .ok (bs l).toArray w:=by
        have:=firstCells_string (P:=P) (strB l) w
        rwa [hb,hsl,← hsize] at this
      simp [Builtin.append_,run_underlying ht,run_underlying hk,sizeOf,typeInfo,hi,Builtin.lenOf,hsl,hroom,hf,Addr.add_lit,hst])
    (fun ba cap hv hc hold=>by
      subst hv
      have h:=run_append_grow_src (P:=P) w t tx ty e i z ht hi hz ba n cap xs hold (sV l) l.length (bs l) (hsize ▸ hsrc) hc (by unfold maxLen at h63; omega) (growslice_fits (by omega) (by rw [hby]; omega))
      rw [h]
      simp)
    (fun hm hv=>by
      subst hv
      have hl0:l=[]:=List.eq_nil_of_length_eq_zero hm
      subst hl0
      exact run_append_nothing w t tx ty e i ht hi none 0 0 (Nat.le_refl _) _ (by rw [hsize]; exact hsrc))
  rw [hsize] at this
  exact this
end
section
variable {P:Program} {E:Env} {n:Nat} {K:Slots} {L:Res} {o:Oper} {C:Value→Res→Prop}
theorem OpT_appendStr {t tx r k1 e:Nat} {x y:Operand} {v:Value} {xs:List Value} {l:List UInt8} {i:TypeInfo} {z:Value}
    (ho:o.op = .call { callee:=.builtin .append,args:=#[x,y],argTypes:=#[t,tx] }) (ht:P.underlying t=some (.slice e)) (hk:P.underlying tx=some .string) (hi:P.info? e=some i) (hz:i.zero=some z)
    (hsize:i.size=1) (hby:i.bytes=1) (hzs:z.cells.size=1) (hx:evK K x=some v) (hy:evK K y=some (sV l)) (hr:look L r=some (rowP e 1 v k1 xs))
    (h63:k1 + l.length≤maxLen) (hbytes:k1 + l.length≤140737488355328)
    (k:∀ v',C v' ((r,rowP e 1 v' (k1 + l.length) (xs++bs l))::L)):OpT P E n o K L C:=fun a w Kc Q hA hS hK=>by
  obtain ⟨h3,q3,q4⟩:=hS.read hr
  have hOwn:=rowP_own q3 q4
  obtain ⟨v',w',hrun,g1,g2,g3⟩:=run_append_str (P:=P) t tx o.type e i z ht hk hi hz hsize hby hzs hOwn l h63 hbytes
  unfold Oper.wp execOp
  simp only [ho,resolve,invoke,builtin,Sem.run_bind,Sem.run_pure,Result.andThen_ok,List.map_toArray,List.map_cons,List.map_nil,hA.eval hx,hA.eval hy,hrun]
  refine hK _ _ _ (k v') (hS.step hr fun h hp hin=>?_)
  obtain ⟨h',c1,c2,c3⟩:=rowP_of_own g1
  refine ⟨v.ownBlock.toList,h',?_,g2,c1,c2,fun g hg=>?_⟩
  · intro k hk
    simp at hk
    exact rowP_block hp hk
  · have hb:=c3 g hg
    rcases g3 with h4 | h4
    · left; exact rowP_block hp (h4 ▸ hb)
    · right; rw [h4] at hb; injection hb with hb; omega
end
end Go.Proofs.YthkdkmaacjpneaaGreatDoor
namespace Go.Proofs.YthkdkmaacjpneaaGreatDoor
open Go.RowKit Go.Lib
set_option maxRecDepth 8000

theorem wrongR_ref (b:Bool) (r:Nat):(((b || decide ((r:Int)=47)) || decide ((r:Int) < 32)) || decide ((r:Int)=127))=(b || wrongR r):=by
  rw [← wrongR_eq]
  cases b <;> simp
  cases decide ((r:Int)=47) <;> simp
theorem oneR_zero {l:List UInt8} (h:decide (((oneR l).2:Int)=0)=true):noRune l=true:=by
  cases hn:noRune l with
  | true=>rfl
  | false =>
    have h2:=of_decide_eq_true h
    unfold oneR at h2
    rw [hn] at h2
    have:=decodeL_width l
    simp at h2
    omega
theorem oneR_pos {l:List UInt8} (h:decide (((oneR l).2:Int)=0)=false):noRune l=false:=by
  cases hn:noRune l with
  | false=>rfl
  | true =>
    have h2:=of_decide_eq_false h
    unfold oneR at h2
    rw [hn] at h2
    simp at h2
theorem one_rspec (l:List UInt8) (i:Nat) (hi:i < l.length) (hl:l.length≤140737488355328) (F:HP):CallsS Tryz.prog 78 #[sV l,.int .i64 (i:Int)] F [] (fun v Ps=>v = .tuple #[.int .i32 ((oneR (l.drop i)).1:Int),.int .i64 ((oneR (l.drop i)).2:Int)]∧Ps=[]):=by
 have hne:l.drop i≠[]:=by intro hc; have:=congrArg List.length hc; simp at this; omega
 have hg0:(l.drop i).getD 0 0=at0 l i:=by rw [at0_drop]; rfl
 have hb256:=(at0 l i).toNat_lt
 refine callsS_enter Tryz.func78 rfl Tryz.ntmps78 (by simp) (fun E=>?_)
 refine Q9 (R9 (G9 rfl rfl (G9 rfl rfl (N9 (X9 (Q9 (R9 (M9 rfl rfl (M9 rfl rfl (L9 rfl (Pu_idxStrN (i) rfl Tryz.underlying9 rfl rfl rfl hi) (G9 rfl rfl (N9 (X9 (Q9 (R9 (G9 rfl rfl (G9 rfl rfl (N9 (X9 (Q9 ?_))))))))))))))))))))
 refine W_block ?_
 refine Q9 (R9 (M9 rfl rfl (L9 rfl (Pn9 rfl rfl rfl (run_lss _ _ _ _ _ _)) (G9 rfl rfl (N9 (X9 ?_))))))
 refine C9 rfl (fun hc13=>?_) (fun hc13=>?_)
 ·
  have h128:(at0 l i).toNat < 128:=by have:=of_decide_eq_true hc13; omega
  refine Q9 (R9 (M9 rfl rfl (L9 rfl (Pu_conv rfl rfl (conv_u8 _ Tryz.runUnderlying5 Tryz.runUnderlying21)) (G9 rfl rfl (G9 rfl rfl (N9 (X9 ?_)))))))
  refine W_ret (X_block_ret (X_then_ret ?_))
  have hs:oneR (l.drop i)=((at0 l i).toNat,1):=(oneM_eq _ hne).symm.trans ((oneM_ascii (by rw [hg0]; exact h128)).trans (by rw [hg0]))
  exact Xq9 [] (Ps:=[]) (res2 Tryz.results78 rfl rfl) rfl (by decide) ⟨by rw [hs] <;> rfl,rfl⟩
 ·
  have h128:¬ (at0 l i).toNat < 128:=by have:=of_decide_eq_false hc13; omega
  refine Q9 (R9 (M9 rfl rfl (L9 rfl (Pn9 rfl rfl rfl (run_geq _ _ _ _ _ _)) (M9 rfl rfl (Lg9 rfl rfl rfl rfl (by decide) (fun hb=>(Pm9 rfl rfl)) (Lg9 rfl rfl rfl rfl (by decide) (fun hb=>(Pn9 rfl (ev_gv rfl hb) rfl (run_lss _ _ _ _ _ _))) (L9 rfl (Pu_and rfl rfl rfl) (G9 rfl rfl (N9 (X9 ?_))))))))))
  refine C9 rfl (fun hc18=>?_) (fun hc18=>?_)
  ·
   simp only [Bool.and_eq_true,decide_eq_true_eq] at hc18
   refine R9 (M9 rfl rfl (L9 rfl (Pn9 rfl rfl rfl (run_and31 _ _ _ _)) (L9 rfl (Pu_conv rfl rfl (conv_small _ (by omega) Tryz.runUnderlying5 Tryz.runUnderlying21)) (G9 rfl rfl (G9 rfl rfl (N9 (X_block (X9 (Q9 (Q9 ?_))))))))))
   have hld:lead ((l.drop i).getD 0 0).toNat=(2,(at0 l i).toNat % 32):=by rw [hg0]; unfold lead; rw [if_pos (by omega)]
   refine R9 (M9 rfl rfl (L9 rfl (Pn9 rfl rfl rfl (run_eql _ _ _ _ _ _)) (M9 rfl rfl (Lg9 rfl rfl rfl rfl (by decide) (fun hb=>(Pm9 rfl rfl)) (Lg9 rfl rfl rfl rfl (by decide) (fun hb=>(Pm9 rfl rfl)) (Lg9 rfl rfl rfl rfl (by decide) (fun hb=>(Pn9 rfl (ev_gv rfl hb) (ev_gv rfl hb) (run_add _ _ _ _ _ (by omega)))) (Lg9 rfl rfl rfl rfl (by decide) (fun hb=>(Pm9 rfl rfl)) (Lg9 rfl rfl rfl rfl (by decide) (fun hb=>(Pu_lenStr rfl Tryz.underlying9 (ev_gv rfl hb))) (Lg9 rfl rfl rfl rfl (by decide) (fun hb=>(Pn9 rfl (ev_gv rfl hb) (ev_gv rfl hb) (run_gtr _ _ _ _ _ _))) (L9 rfl (Pu_or rfl rfl rfl) (N9 (X9 ?_))))))))))))
   refine C9 rfl (fun hc57=>?_) (fun hc57=>?_)
   ·
    have hsh:l.length < i + 2:=by simp only [Bool.or_eq_true,decide_eq_true_eq] at hc57; omega
    refine Q9 (R9 (G9 rfl rfl (G9 rfl rfl (N9 (X9 ?_)))))
    refine W_ret (X_then_ret ?_)
    have hs:oneR (l.drop i)=(0,0):=(oneM_eq _ hne).symm.trans (oneM_short (by rw [hg0]; exact h128) hld (.inr (by rw [List.length_drop]; omega)))
    exact Xq9 [] (Ps:=[]) (res2 Tryz.results78 rfl rfl) rfl (by decide) ⟨by rw [hs] <;> rfl,rfl⟩
   ·
    have hsh:i + 2≤l.length:=by simp only [Bool.or_eq_false_iff,decide_eq_false_iff_not] at hc57; omega
    refine K9 (X9 ?_)
    refine Q9 (Q9 (R9 (G9 rfl rfl (N9 (X9 ?_)))))
    refine W_block ?_
    refine W_loop (α:=Nat × Nat) (fun x=>[(0,sV l),(1,.int .i64 (i:Int)),(7,.int .i64 2),(8,.int .i32 (x.2:Int)),(9,.int .i64 (x.1:Int))]) (fun x=>[(0,F)]) (fun x=>restF (l.drop i) 2 (5 - x.1) x.1 x.2=restF (l.drop i) 2 4 1 ((at0 l i).toNat % 32)∧((x.1=1∧x.2 < 32)∨(x.1=2∧x.2 < 2048)∨(x.1=3∧x.2 < 131072)∨(x.1=4∧x.2 < 8388608))∧x.1≤2) (fun x=>2 - x.1) ((1,(at0 l i).toNat % 32)) ⟨rfl,.inl ⟨rfl,by dsimp only; omega⟩,by dsimp only; omega⟩ (a9 rfl) ⟨rfl,trivial⟩ (fun x hx=>?_)
    obtain ⟨hrs,hbd,hxn⟩:=hx
    refine Q9 (Q9 (R9 (M9 rfl rfl (M9 rfl rfl (L9 rfl (Pn9 rfl rfl rfl (run_lss _ _ _ _ _ _)) (N9 (X9 ?_)))))))
    refine C9 rfl (fun hc60=>?_) (fun hc60=>?_)
    ·
     have hlt:x.1 < 2:=by have:=of_decide_eq_true hc60; omega
     refine K9 (X9 ?_)
     refine Q9 ?_
     refine W_block ?_
     refine Q9 (Q9 (R9 (M9 rfl rfl (M9 rfl rfl (M9 rfl rfl (L9 rfl (Pn9 rfl rfl rfl (run_add _ _ _ _ _ (by omega))) (L9 rfl (Pu_idxStrN (i + x.1) rfl Tryz.underlying9 rfl rfl (by omega) (by omega)) (L9 rfl (Pn9 rfl rfl rfl (run_and192 _ _ _ _)) (L9 rfl (Pn9 rfl rfl rfl (run_neq _ _ _ _ _ _)) (N9 (X9 ?_)))))))))))
     refine C9 rfl (fun hc69=>?_) (fun hc69=>?_)
     ·
      have h2:¬ (at0 l (i + x.1)).toNat / 64=2:=by simp at hc69; omega
      refine Q9 (R9 (G9 rfl rfl (G9 rfl rfl (N9 (X9 ?_)))))
      refine W_ret (X_then_ret (X_block_ret (X_then_ret (X_then_ret (X_block_ret (X_then_ret ?_))))))
      have hs:oneR (l.drop i)=(0,0):=(oneM_eq _ hne).symm.trans (oneM_none (by rw [hg0]; exact h128) hld (by rw [List.length_drop]; omega) (by rw [← hrs,show 5 - x.1=(4 - x.1) + 1 by omega]; exact restF_bad hlt (by rw [at0_drop]; exact h2)))
      exact Xq9 [] (Ps:=[]) (res2 Tryz.results78 rfl rfl) rfl (by decide) ⟨by rw [hs] <;> rfl,rfl⟩
     ·
      have h2:(at0 l (i + x.1)).toNat / 64=2:=by simp at hc69; omega
      refine K9 (X9 ?_)
      refine R9 (M9 rfl rfl (L9 rfl (Pn9 rfl rfl rfl (run_shl6 _ _ _ _ (by omega))) (M9 rfl rfl (M9 rfl rfl (M9 rfl rfl (L9 rfl (Pn9 rfl rfl rfl (run_add _ _ _ _ _ (by omega))) (L9 rfl (Pu_idxStrN (i + x.1) rfl Tryz.underlying9 rfl rfl (by omega) (by omega)) (L9 rfl (Pn9 rfl rfl rfl (run_and63 _ _ _ _)) (L9 rfl (Pu_conv rfl rfl (conv_small _ (by omega) Tryz.runUnderlying5 Tryz.runUnderlying21)) (L9 rfl (Pn9 rfl rfl rfl (run_or6 _ _ (by omega) (by omega) _ _ _)) (G9 rfl rfl (N9 (X_block (X9 (R9 (M9 rfl rfl (L9 rfl (Pn9 rfl rfl rfl (run_add _ _ _ _ _ (by omega))) (G9 rfl rfl (N9 ?_)))))))))))))))))))
      exact Xr9 (x.1 + 1,x.2 * 64 + (at0 l (i + x.1)).toNat % 64) ⟨by rw [← hrs,show 5 - x.1=(4 - x.1) + 1 by omega,restF_ok hlt (by rw [at0_drop]; exact h2),at0_drop]; dsimp only; rw [show 5 - (x.1 + 1)=4 - x.1 by omega],by dsimp only; omega,by dsimp only; omega⟩ (by dsimp only; omega) (a9 rfl) ⟨rfl,trivial⟩
    ·
     have hge:2≤x.1:=by have:=of_decide_eq_false hc60; omega
     refine W_exit (X_then_exit (X_then_exit (X_block_exit (X9 ?_))))
     refine Q9 (Q9 (R9 (M9 rfl rfl (L9 rfl (Pn9 rfl rfl rfl (run_gtr _ _ _ _ _ _)) (M9 rfl rfl (Lg9 rfl rfl rfl rfl (by decide) (fun hb=>(Pm9 rfl rfl)) (Lg9 rfl rfl rfl rfl (by decide) (fun hb=>(Pn9 rfl (ev_gv rfl hb) rfl (run_geq _ _ _ _ _ _))) (Lg9 rfl rfl rfl rfl (by decide) (fun hb=>(Pm9 rfl (ev_gv rfl hb))) (WL_guardP2 rfl rfl rfl rfl (by decide) (fun hb=>(Pm9 rfl rfl)) (WL_guardP2 rfl rfl rfl rfl (by decide) (fun hb=>(Pn9 rfl (ev_gv rfl hb) rfl (run_leq _ _ _ _ _ _))) (Lg9 rfl rfl rfl rfl (by decide) (fun hb=>(Pu_and2 hb rfl (ev_gv rfl hb) rfl)) (L9 rfl (Pu_or rfl rfl rfl) (M9 rfl rfl (Lg9 rfl rfl rfl rfl (by decide) (fun hb=>(Pm9 rfl rfl)) (Lg9 rfl rfl rfl rfl (by decide) (fun hb=>(Pn9 rfl (ev_gv rfl hb) rfl (run_eql _ _ _ _ _ _))) (Lg9 rfl rfl rfl rfl (by decide) (fun hb=>(Pm9 rfl (ev_gv rfl hb))) (WL_guardP2 rfl rfl rfl rfl (by decide) (fun hb=>(Pm9 rfl rfl)) (WL_guardP2 rfl rfl rfl rfl (by decide) (fun hb=>(Pn9 rfl (ev_gv rfl hb) rfl (run_lss _ _ _ _ _ _))) (Lg9 rfl rfl rfl rfl (by decide) (fun hb=>(Pu_and2 hb rfl (ev_gv rfl hb) rfl)) (L9 rfl (Pu_or rfl rfl rfl) (M9 rfl rfl (Lg9 rfl rfl rfl rfl (by decide) (fun hb=>(Pm9 rfl rfl)) (Lg9 rfl rfl rfl rfl (by decide) (fun hb=>(Pn9 rfl (ev_gv rfl hb) rfl (run_eql _ _ _ _ _ _))) (Lg9 rfl rfl rfl rfl (by decide) (fun hb=>(Pm9 rfl (ev_gv rfl hb))) (WL_guardP2 rfl rfl rfl rfl (by decide) (fun hb=>(Pm9 rfl rfl)) (WL_guardP2 rfl rfl rfl rfl (by decide) (fun hb=>(Pn9 rfl (ev_gv rfl hb) rfl (run_lss _ _ _ _ _ _))) (Lg9 rfl rfl rfl rfl (by decide) (fun hb=>(Pu_and2 hb rfl (ev_gv rfl hb) rfl)) (L9 rfl (Pu_or rfl rfl rfl) (M9 rfl rfl (Lg9 rfl rfl rfl rfl (by decide) (fun hb=>(Pm9 rfl rfl)) (Lg9 rfl rfl rfl rfl (by decide) (fun hb=>(Pn9 rfl (ev_gv rfl hb) rfl (run_eql _ _ _ _ _ _))) (Lg9 rfl rfl rfl rfl (by decide) (fun hb=>(Pm9 rfl (ev_gv rfl hb))) (WL_guardP2 rfl rfl rfl rfl (by decide) (fun hb=>(Pm9 rfl rfl)) (WL_guardP2 rfl rfl rfl rfl (by decide) (fun hb=>(Pn9 rfl (ev_gv rfl hb) rfl (run_lss _ _ _ _ _ _))) (Lg9 rfl rfl rfl rfl (by decide) (fun hb=>(Pu_and2 hb rfl (ev_gv rfl hb) rfl)) (L9 rfl (Pu_or rfl rfl rfl) (N9 (X9 ?_))))))))))))))))))))))))))))))))))))))
     refine C9 rfl (fun hc113=>?_) (fun hc113=>?_)
     ·
      simp only [Bool.or_eq_true,Bool.and_eq_true,decide_eq_true_eq,true_and] at hc113
      refine Q9 (R9 (G9 rfl rfl (G9 rfl rfl (N9 (X9 ?_)))))
      refine W_ret (X_then_ret ?_)
      have hs:oneR (l.drop i)=(0,0):=(oneM_eq _ hne).symm.trans ((oneM_some (by rw [hg0]; exact h128) hld (by rw [List.length_drop]; omega) (by rw [← hrs]; exact restF_end hge _)).trans (by unfold finO; rw [if_pos (by omega)]))
      exact Xq9 [] (Ps:=[]) (res2 Tryz.results78 rfl rfl) rfl (by decide) ⟨by rw [hs] <;> rfl,rfl⟩
     ·
      simp only [Bool.or_eq_false_iff,Bool.and_eq_false_iff,decide_eq_false_iff_not,not_true_eq_false,false_or] at hc113
      refine K9 (X9 ?_)
      refine Q9 (R9 (M9 rfl rfl (M9 rfl rfl (G9 rfl rfl (G9 rfl rfl (N9 (X9 ?_)))))))
      refine W_ret ?_
      have hs:oneR (l.drop i)=(x.2,2):=(oneM_eq _ hne).symm.trans ((oneM_some (by rw [hg0]; exact h128) hld (by rw [List.length_drop]; omega) (by rw [← hrs]; exact restF_end hge _)).trans (by unfold finO; rw [if_neg (by omega)]))
      exact Xq9 [] (Ps:=[]) (res2 Tryz.results78 rfl rfl) rfl (by decide) ⟨by rw [hs] <;> rfl,rfl⟩
  ·
   simp only [Bool.and_eq_false_iff,decide_eq_false_iff_not] at hc18
   refine Q9 (R9 (M9 rfl rfl (L9 rfl (Pn9 rfl rfl rfl (run_geq _ _ _ _ _ _)) (M9 rfl rfl (Lg9 rfl rfl rfl rfl (by decide) (fun hb=>(Pm9 rfl rfl)) (Lg9 rfl rfl rfl rfl (by decide) (fun hb=>(Pn9 rfl (ev_gv rfl hb) rfl (run_lss _ _ _ _ _ _))) (L9 rfl (Pu_and rfl rfl rfl) (G9 rfl rfl (N9 (X9 ?_))))))))))
   refine C9 rfl (fun hc28=>?_) (fun hc28=>?_)
   ·
    simp only [Bool.and_eq_true,decide_eq_true_eq] at hc28
    refine R9 (M9 rfl rfl (L9 rfl (Pn9 rfl rfl rfl (run_and15 _ _ _ _)) (L9 rfl (Pu_conv rfl rfl (conv_small _ (by omega) Tryz.runUnderlying5 Tryz.runUnderlying21)) (G9 rfl rfl (G9 rfl rfl (N9 (X_block (X9 (Q9 (Q9 ?_))))))))))
    have hld:lead ((l.drop i).getD 0 0).toNat=(3,(at0 l i).toNat % 16):=by rw [hg0]; unfold lead; rw [if_neg (by omega),if_pos (by omega)]
    refine R9 (M9 rfl rfl (L9 rfl (Pn9 rfl rfl rfl (run_eql _ _ _ _ _ _)) (M9 rfl rfl (Lg9 rfl rfl rfl rfl (by decide) (fun hb=>(Pm9 rfl rfl)) (Lg9 rfl rfl rfl rfl (by decide) (fun hb=>(Pm9 rfl rfl)) (Lg9 rfl rfl rfl rfl (by decide) (fun hb=>(Pn9 rfl (ev_gv rfl hb) (ev_gv rfl hb) (run_add _ _ _ _ _ (by omega)))) (Lg9 rfl rfl rfl rfl (by decide) (fun hb=>(Pm9 rfl rfl)) (Lg9 rfl rfl rfl rfl (by decide) (fun hb=>(Pu_lenStr rfl Tryz.underlying9 (ev_gv rfl hb))) (Lg9 rfl rfl rfl rfl (by decide) (fun hb=>(Pn9 rfl (ev_gv rfl hb) (ev_gv rfl hb) (run_gtr _ _ _ _ _ _))) (L9 rfl (Pu_or rfl rfl rfl) (N9 (X9 ?_))))))))))))
    refine C9 rfl (fun hc57=>?_) (fun hc57=>?_)
    ·
     have hsh:l.length < i + 3:=by simp only [Bool.or_eq_true,decide_eq_true_eq] at hc57; omega
     refine Q9 (R9 (G9 rfl rfl (G9 rfl rfl (N9 (X9 ?_)))))
     refine W_ret (X_then_ret ?_)
     have hs:oneR (l.drop i)=(0,0):=(oneM_eq _ hne).symm.trans (oneM_short (by rw [hg0]; exact h128) hld (.inr (by rw [List.length_drop]; omega)))
     exact Xq9 [] (Ps:=[]) (res2 Tryz.results78 rfl rfl) rfl (by decide) ⟨by rw [hs] <;> rfl,rfl⟩
    ·
     have hsh:i + 3≤l.length:=by simp only [Bool.or_eq_false_iff,decide_eq_false_iff_not] at hc57; omega
     refine K9 (X9 ?_)
     refine Q9 (Q9 (R9 (G9 rfl rfl (N9 (X9 ?_)))))
     refine W_block ?_
     refine W_loop (α:=Nat × Nat) (fun x=>[(0,sV l),(1,.int .i64 (i:Int)),(7,.int .i64 3),(8,.int .i32 (x.2:Int)),(9,.int .i64 (x.1:Int))]) (fun x=>[(0,F)]) (fun x=>restF (l.drop i) 3 (5 - x.1) x.1 x.2=restF (l.drop i) 3 4 1 ((at0 l i).toNat % 16)∧((x.1=1∧x.2 < 32)∨(x.1=2∧x.2 < 2048)∨(x.1=3∧x.2 < 131072)∨(x.1=4∧x.2 < 8388608))∧x.1≤3) (fun x=>3 - x.1) ((1,(at0 l i).toNat % 16)) ⟨rfl,.inl ⟨rfl,by dsimp only; omega⟩,by dsimp only; omega⟩ (a9 rfl) ⟨rfl,trivial⟩ (fun x hx=>?_)
     obtain ⟨hrs,hbd,hxn⟩:=hx
     refine Q9 (Q9 (R9 (M9 rfl rfl (M9 rfl rfl (L9 rfl (Pn9 rfl rfl rfl (run_lss _ _ _ _ _ _)) (N9 (X9 ?_)))))))
     refine C9 rfl (fun hc60=>?_) (fun hc60=>?_)
     ·
      have hlt:x.1 < 3:=by have:=of_decide_eq_true hc60; omega
      refine K9 (X9 ?_)
      refine Q9 ?_
      refine W_block ?_
      refine Q9 (Q9 (R9 (M9 rfl rfl (M9 rfl rfl (M9 rfl rfl (L9 rfl (Pn9 rfl rfl rfl (run_add _ _ _ _ _ (by omega))) (L9 rfl (Pu_idxStrN (i + x.1) rfl Tryz.underlying9 rfl rfl (by omega) (by omega)) (L9 rfl (Pn9 rfl rfl rfl (run_and192 _ _ _ _)) (L9 rfl (Pn9 rfl rfl rfl (run_neq _ _ _ _ _ _)) (N9 (X9 ?_)))))))))))
      refine C9 rfl (fun hc69=>?_) (fun hc69=>?_)
      ·
       have h2:¬ (at0 l (i + x.1)).toNat / 64=2:=by simp at hc69; omega
       refine Q9 (R9 (G9 rfl rfl (G9 rfl rfl (N9 (X9 ?_)))))
       refine W_ret (X_then_ret (X_block_ret (X_then_ret (X_then_ret (X_block_ret (X_then_ret ?_))))))
       have hs:oneR (l.drop i)=(0,0):=(oneM_eq _ hne).symm.trans (oneM_none (by rw [hg0]; exact h128) hld (by rw [List.length_drop]; omega) (by rw [← hrs,show 5 - x.1=(4 - x.1) + 1 by omega]; exact restF_bad hlt (by rw [at0_drop]; exact h2)))
       exact Xq9 [] (Ps:=[]) (res2 Tryz.results78 rfl rfl) rfl (by decide) ⟨by rw [hs] <;> rfl,rfl⟩
      ·
       have h2:(at0 l (i + x.1)).toNat / 64=2:=by simp at hc69; omega
       refine K9 (X9 ?_)
       refine R9 (M9 rfl rfl (L9 rfl (Pn9 rfl rfl rfl (run_shl6 _ _ _ _ (by omega))) (M9 rfl rfl (M9 rfl rfl (M9 rfl rfl (L9 rfl (Pn9 rfl rfl rfl (run_add _ _ _ _ _ (by omega))) (L9 rfl (Pu_idxStrN (i + x.1) rfl Tryz.underlying9 rfl rfl (by omega) (by omega)) (L9 rfl (Pn9 rfl rfl rfl (run_and63 _ _ _ _)) (L9 rfl (Pu_conv rfl rfl (conv_small _ (by omega) Tryz.runUnderlying5 Tryz.runUnderlying21)) (L9 rfl (Pn9 rfl rfl rfl (run_or6 _ _ (by omega) (by omega) _ _ _)) (G9 rfl rfl (N9 (X_block (X9 (R9 (M9 rfl rfl (L9 rfl (Pn9 rfl rfl rfl (run_add _ _ _ _ _ (by omega))) (G9 rfl rfl (N9 ?_)))))))))))))))))))
       exact Xr9 (x.1 + 1,x.2 * 64 + (at0 l (i + x.1)).toNat % 64) ⟨by rw [← hrs,show 5 - x.1=(4 - x.1) + 1 by omega,restF_ok hlt (by rw [at0_drop]; exact h2),at0_drop]; dsimp only; rw [show 5 - (x.1 + 1)=4 - x.1 by omega],by dsimp only; omega,by dsimp only; omega⟩ (by dsimp only; omega) (a9 rfl) ⟨rfl,trivial⟩
     ·
      have hge:3≤x.1:=by have:=of_decide_eq_false hc60; omega
      refine W_exit (X_then_exit (X_then_exit (X_block_exit (X9 ?_))))
      refine Q9 (Q9 (R9 (M9 rfl rfl (L9 rfl (Pn9 rfl rfl rfl (run_gtr _ _ _ _ _ _)) (M9 rfl rfl (Lg9 rfl rfl rfl rfl (by decide) (fun hb=>(Pm9 rfl rfl)) (Lg9 rfl rfl rfl rfl (by decide) (fun hb=>(Pn9 rfl (ev_gv rfl hb) rfl (run_geq _ _ _ _ _ _))) (Lg9 rfl rfl rfl rfl (by decide) (fun hb=>(Pm9 rfl (ev_gv rfl hb))) (WL_guardP2 rfl rfl rfl rfl (by decide) (fun hb=>(Pm9 rfl rfl)) (WL_guardP2 rfl rfl rfl rfl (by decide) (fun hb=>(Pn9 rfl (ev_gv rfl hb) rfl (run_leq _ _ _ _ _ _))) (Lg9 rfl rfl rfl rfl (by decide) (fun hb=>(Pu_and2 hb rfl (ev_gv rfl hb) rfl)) (L9 rfl (Pu_or rfl rfl rfl) (M9 rfl rfl (Lg9 rfl rfl rfl rfl (by decide) (fun hb=>(Pm9 rfl rfl)) (Lg9 rfl rfl rfl rfl (by decide) (fun hb=>(Pn9 rfl (ev_gv rfl hb) rfl (run_eql _ _ _ _ _ _))) (Lg9 rfl rfl rfl rfl (by decide) (fun hb=>(Pm9 rfl (ev_gv rfl hb))) (WL_guardP2 rfl rfl rfl rfl (by decide) (fun hb=>(Pm9 rfl rfl)) (WL_guardP2 rfl rfl rfl rfl (by decide) (fun hb=>(Pn9 rfl (ev_gv rfl hb) rfl (run_lss _ _ _ _ _ _))) (Lg9 rfl rfl rfl rfl (by decide) (fun hb=>(Pu_and2 hb rfl (ev_gv rfl hb) rfl)) (L9 rfl (Pu_or rfl rfl rfl) (M9 rfl rfl (Lg9 rfl rfl rfl rfl (by decide) (fun hb=>(Pm9 rfl rfl)) (Lg9 rfl rfl rfl rfl (by decide) (fun hb=>(Pn9 rfl (ev_gv rfl hb) rfl (run_eql _ _ _ _ _ _))) (Lg9 rfl rfl rfl rfl (by decide) (fun hb=>(Pm9 rfl (ev_gv rfl hb))) (WL_guardP2 rfl rfl rfl rfl (by decide) (fun hb=>(Pm9 rfl rfl)) (WL_guardP2 rfl rfl rfl rfl (by decide) (fun hb=>(Pn9 rfl (ev_gv rfl hb) rfl (run_lss _ _ _ _ _ _))) (Lg9 rfl rfl rfl rfl (by decide) (fun hb=>(Pu_and2 hb rfl (ev_gv rfl hb) rfl)) (L9 rfl (Pu_or rfl rfl rfl) (M9 rfl rfl (Lg9 rfl rfl rfl rfl (by decide) (fun hb=>(Pm9 rfl rfl)) (Lg9 rfl rfl rfl rfl (by decide) (fun hb=>(Pn9 rfl (ev_gv rfl hb) rfl (run_eql _ _ _ _ _ _))) (Lg9 rfl rfl rfl rfl (by decide) (fun hb=>(Pm9 rfl (ev_gv rfl hb))) (WL_guardP2 rfl rfl rfl rfl (by decide) (fun hb=>(Pm9 rfl rfl)) (WL_guardP2 rfl rfl rfl rfl (by decide) (fun hb=>(Pn9 rfl (ev_gv rfl hb) rfl (run_lss _ _ _ _ _ _))) (Lg9 rfl rfl rfl rfl (by decide) (fun hb=>(Pu_and2 hb rfl (ev_gv rfl hb) rfl)) (L9 rfl (Pu_or rfl rfl rfl) (N9 (X9 ?_))))))))))))))))))))))))))))))))))))))
      refine C9 rfl (fun hc113=>?_) (fun hc113=>?_)
      ·
       simp only [Bool.or_eq_true,Bool.and_eq_true,decide_eq_true_eq,true_and] at hc113
       refine Q9 (R9 (G9 rfl rfl (G9 rfl rfl (N9 (X9 ?_)))))
       refine W_ret (X_then_ret ?_)
       have hs:oneR (l.drop i)=(0,0):=(oneM_eq _ hne).symm.trans ((oneM_some (by rw [hg0]; exact h128) hld (by rw [List.length_drop]; omega) (by rw [← hrs]; exact restF_end hge _)).trans (by unfold finO; rw [if_pos (by omega)]))
       exact Xq9 [] (Ps:=[]) (res2 Tryz.results78 rfl rfl) rfl (by decide) ⟨by rw [hs] <;> rfl,rfl⟩
      ·
       simp only [Bool.or_eq_false_iff,Bool.and_eq_false_iff,decide_eq_false_iff_not,not_true_eq_false,false_or] at hc113
       refine K9 (X9 ?_)
       refine Q9 (R9 (M9 rfl rfl (M9 rfl rfl (G9 rfl rfl (G9 rfl rfl (N9 (X9 ?_)))))))
       refine W_ret ?_
       have hs:oneR (l.drop i)=(x.2,3):=(oneM_eq _ hne).symm.trans ((oneM_some (by rw [hg0]; exact h128) hld (by rw [List.length_drop]; omega) (by rw [← hrs]; exact restF_end hge _)).trans (by unfold finO; rw [if_neg (by omega)]))
       exact Xq9 [] (Ps:=[]) (res2 Tryz.results78 rfl rfl) rfl (by decide) ⟨by rw [hs] <;> rfl,rfl⟩
   ·
    simp only [Bool.and_eq_false_iff,decide_eq_false_iff_not] at hc28
    refine Q9 (R9 (M9 rfl rfl (L9 rfl (Pn9 rfl rfl rfl (run_geq _ _ _ _ _ _)) (M9 rfl rfl (Lg9 rfl rfl rfl rfl (by decide) (fun hb=>(Pm9 rfl rfl)) (Lg9 rfl rfl rfl rfl (by decide) (fun hb=>(Pn9 rfl (ev_gv rfl hb) rfl (run_lss _ _ _ _ _ _))) (L9 rfl (Pu_and rfl rfl rfl) (G9 rfl rfl (N9 (X9 ?_))))))))))
    refine C9 rfl (fun hc38=>?_) (fun hc38=>?_)
    ·
     simp only [Bool.and_eq_true,decide_eq_true_eq] at hc38
     refine R9 (M9 rfl rfl (L9 rfl (Pn9 rfl rfl rfl (run_and7 _ _ _ _)) (L9 rfl (Pu_conv rfl rfl (conv_small _ (by omega) Tryz.runUnderlying5 Tryz.runUnderlying21)) (G9 rfl rfl (G9 rfl rfl (N9 (X_block (X9 (Q9 (Q9 ?_))))))))))
     have hld:lead ((l.drop i).getD 0 0).toNat=(4,(at0 l i).toNat % 8):=by rw [hg0]; unfold lead; rw [if_neg (by omega),if_neg (by omega),if_pos (by omega)]
     refine R9 (M9 rfl rfl (L9 rfl (Pn9 rfl rfl rfl (run_eql _ _ _ _ _ _)) (M9 rfl rfl (Lg9 rfl rfl rfl rfl (by decide) (fun hb=>(Pm9 rfl rfl)) (Lg9 rfl rfl rfl rfl (by decide) (fun hb=>(Pm9 rfl rfl)) (Lg9 rfl rfl rfl rfl (by decide) (fun hb=>(Pn9 rfl (ev_gv rfl hb) (ev_gv rfl hb) (run_add _ _ _ _ _ (by omega)))) (Lg9 rfl rfl rfl rfl (by decide) (fun hb=>(Pm9 rfl rfl)) (Lg9 rfl rfl rfl rfl (by decide) (fun hb=>(Pu_lenStr rfl Tryz.underlying9 (ev_gv rfl hb))) (Lg9 rfl rfl rfl rfl (by decide) (fun hb=>(Pn9 rfl (ev_gv rfl hb) (ev_gv rfl hb) (run_gtr _ _ _ _ _ _))) (L9 rfl (Pu_or rfl rfl rfl) (N9 (X9 ?_))))))))))))
     refine C9 rfl (fun hc57=>?_) (fun hc57=>?_)
     ·
      have hsh:l.length < i + 4:=by simp only [Bool.or_eq_true,decide_eq_true_eq] at hc57; omega
      refine Q9 (R9 (G9 rfl rfl (G9 rfl rfl (N9 (X9 ?_)))))
      refine W_ret (X_then_ret ?_)
      have hs:oneR (l.drop i)=(0,0):=(oneM_eq _ hne).symm.trans (oneM_short (by rw [hg0]; exact h128) hld (.inr (by rw [List.length_drop]; omega)))
      exact Xq9 [] (Ps:=[]) (res2 Tryz.results78 rfl rfl) rfl (by decide) ⟨by rw [hs] <;> rfl,rfl⟩
     ·
      have hsh:i + 4≤l.length:=by simp only [Bool.or_eq_false_iff,decide_eq_false_iff_not] at hc57; omega
      refine K9 (X9 ?_)
      refine Q9 (Q9 (R9 (G9 rfl rfl (N9 (X9 ?_)))))
      refine W_block ?_
      refine W_loop (α:=Nat × Nat) (fun x=>[(0,sV l),(1,.int .i64 (i:Int)),(7,.int .i64 4),(8,.int .i32 (x.2:Int)),(9,.int .i64 (x.1:Int))]) (fun x=>[(0,F)]) (fun x=>restF (l.drop i) 4 (5 - x.1) x.1 x.2=restF (l.drop i) 4 4 1 ((at0 l i).toNat % 8)∧((x.1=1∧x.2 < 32)∨(x.1=2∧x.2 < 2048)∨(x.1=3∧x.2 < 131072)∨(x.1=4∧x.2 < 8388608))∧x.1≤4) (fun x=>4 - x.1) ((1,(at0 l i).toNat % 8)) ⟨rfl,.inl ⟨rfl,by dsimp only; omega⟩,by dsimp only; omega⟩ (a9 rfl) ⟨rfl,trivial⟩ (fun x hx=>?_)
      obtain ⟨hrs,hbd,hxn⟩:=hx
      refine Q9 (Q9 (R9 (M9 rfl rfl (M9 rfl rfl (L9 rfl (Pn9 rfl rfl rfl (run_lss _ _ _ _ _ _)) (N9 (X9 ?_)))))))
      refine C9 rfl (fun hc60=>?_) (fun hc60=>?_)
      ·
       have hlt:x.1 < 4:=by have:=of_decide_eq_true hc60; omega
       refine K9 (X9 ?_)
       refine Q9 ?_
       refine W_block ?_
       refine Q9 (Q9 (R9 (M9 rfl rfl (M9 rfl rfl (M9 rfl rfl (L9 rfl (Pn9 rfl rfl rfl (run_add _ _ _ _ _ (by omega))) (L9 rfl (Pu_idxStrN (i + x.1) rfl Tryz.underlying9 rfl rfl (by omega) (by omega)) (L9 rfl (Pn9 rfl rfl rfl (run_and192 _ _ _ _)) (L9 rfl (Pn9 rfl rfl rfl (run_neq _ _ _ _ _ _)) (N9 (X9 ?_)))))))))))
       refine C9 rfl (fun hc69=>?_) (fun hc69=>?_)
       ·
        have h2:¬ (at0 l (i + x.1)).toNat / 64=2:=by simp at hc69; omega
        refine Q9 (R9 (G9 rfl rfl (G9 rfl rfl (N9 (X9 ?_)))))
        refine W_ret (X_then_ret (X_block_ret (X_then_ret (X_then_ret (X_block_ret (X_then_ret ?_))))))
        have hs:oneR (l.drop i)=(0,0):=(oneM_eq _ hne).symm.trans (oneM_none (by rw [hg0]; exact h128) hld (by rw [List.length_drop]; omega) (by rw [← hrs,show 5 - x.1=(4 - x.1) + 1 by omega]; exact restF_bad hlt (by rw [at0_drop]; exact h2)))
        exact Xq9 [] (Ps:=[]) (res2 Tryz.results78 rfl rfl) rfl (by decide) ⟨by rw [hs] <;> rfl,rfl⟩
       ·
        have h2:(at0 l (i + x.1)).toNat / 64=2:=by simp at hc69; omega
        refine K9 (X9 ?_)
        refine R9 (M9 rfl rfl (L9 rfl (Pn9 rfl rfl rfl (run_shl6 _ _ _ _ (by omega))) (M9 rfl rfl (M9 rfl rfl (M9 rfl rfl (L9 rfl (Pn9 rfl rfl rfl (run_add _ _ _ _ _ (by omega))) (L9 rfl (Pu_idxStrN (i + x.1) rfl Tryz.underlying9 rfl rfl (by omega) (by omega)) (L9 rfl (Pn9 rfl rfl rfl (run_and63 _ _ _ _)) (L9 rfl (Pu_conv rfl rfl (conv_small _ (by omega) Tryz.runUnderlying5 Tryz.runUnderlying21)) (L9 rfl (Pn9 rfl rfl rfl (run_or6 _ _ (by omega) (by omega) _ _ _)) (G9 rfl rfl (N9 (X_block (X9 (R9 (M9 rfl rfl (L9 rfl (Pn9 rfl rfl rfl (run_add _ _ _ _ _ (by omega))) (G9 rfl rfl (N9 ?_)))))))))))))))))))
        exact Xr9 (x.1 + 1,x.2 * 64 + (at0 l (i + x.1)).toNat % 64) ⟨by rw [← hrs,show 5 - x.1=(4 - x.1) + 1 by omega,restF_ok hlt (by rw [at0_drop]; exact h2),at0_drop]; dsimp only; rw [show 5 - (x.1 + 1)=4 - x.1 by omega],by dsimp only; omega,by dsimp only; omega⟩ (by dsimp only; omega) (a9 rfl) ⟨rfl,trivial⟩
      ·
       have hge:4≤x.1:=by have:=of_decide_eq_false hc60; omega
       refine W_exit (X_then_exit (X_then_exit (X_block_exit (X9 ?_))))
       refine Q9 (Q9 (R9 (M9 rfl rfl (L9 rfl (Pn9 rfl rfl rfl (run_gtr _ _ _ _ _ _)) (M9 rfl rfl (Lg9 rfl rfl rfl rfl (by decide) (fun hb=>(Pm9 rfl rfl)) (Lg9 rfl rfl rfl rfl (by decide) (fun hb=>(Pn9 rfl (ev_gv rfl hb) rfl (run_geq _ _ _ _ _ _))) (Lg9 rfl rfl rfl rfl (by decide) (fun hb=>(Pm9 rfl (ev_gv rfl hb))) (WL_guardP2 rfl rfl rfl rfl (by decide) (fun hb=>(Pm9 rfl rfl)) (WL_guardP2 rfl rfl rfl rfl (by decide) (fun hb=>(Pn9 rfl (ev_gv rfl hb) rfl (run_leq _ _ _ _ _ _))) (Lg9 rfl rfl rfl rfl (by decide) (fun hb=>(Pu_and2 hb rfl (ev_gv rfl hb) rfl)) (L9 rfl (Pu_or rfl rfl rfl) (M9 rfl rfl (Lg9 rfl rfl rfl rfl (by decide) (fun hb=>(Pm9 rfl rfl)) (Lg9 rfl rfl rfl rfl (by decide) (fun hb=>(Pn9 rfl (ev_gv rfl hb) rfl (run_eql _ _ _ _ _ _))) (Lg9 rfl rfl rfl rfl (by decide) (fun hb=>(Pm9 rfl (ev_gv rfl hb))) (WL_guardP2 rfl rfl rfl rfl (by decide) (fun hb=>(Pm9 rfl rfl)) (WL_guardP2 rfl rfl rfl rfl (by decide) (fun hb=>(Pn9 rfl (ev_gv rfl hb) rfl (run_lss _ _ _ _ _ _))) (Lg9 rfl rfl rfl rfl (by decide) (fun hb=>(Pu_and2 hb rfl (ev_gv rfl hb) rfl)) (L9 rfl (Pu_or rfl rfl rfl) (M9 rfl rfl (Lg9 rfl rfl rfl rfl (by decide) (fun hb=>(Pm9 rfl rfl)) (Lg9 rfl rfl rfl rfl (by decide) (fun hb=>(Pn9 rfl (ev_gv rfl hb) rfl (run_eql _ _ _ _ _ _))) (Lg9 rfl rfl rfl rfl (by decide) (fun hb=>(Pm9 rfl (ev_gv rfl hb))) (WL_guardP2 rfl rfl rfl rfl (by decide) (fun hb=>(Pm9 rfl rfl)) (WL_guardP2 rfl rfl rfl rfl (by decide) (fun hb=>(Pn9 rfl (ev_gv rfl hb) rfl (run_lss _ _ _ _ _ _))) (Lg9 rfl rfl rfl rfl (by decide) (fun hb=>(Pu_and2 hb rfl (ev_gv rfl hb) rfl)) (L9 rfl (Pu_or rfl rfl rfl) (M9 rfl rfl (Lg9 rfl rfl rfl rfl (by decide) (fun hb=>(Pm9 rfl rfl)) (Lg9 rfl rfl rfl rfl (by decide) (fun hb=>(Pn9 rfl (ev_gv rfl hb) rfl (run_eql _ _ _ _ _ _))) (Lg9 rfl rfl rfl rfl (by decide) (fun hb=>(Pm9 rfl (ev_gv rfl hb))) (WL_guardP2 rfl rfl rfl rfl (by decide) (fun hb=>(Pm9 rfl rfl)) (WL_guardP2 rfl rfl rfl rfl (by decide) (fun hb=>(Pn9 rfl (ev_gv rfl hb) rfl (run_lss _ _ _ _ _ _))) (Lg9 rfl rfl rfl rfl (by decide) (fun hb=>(Pu_and2 hb rfl (ev_gv rfl hb) rfl)) (L9 rfl (Pu_or rfl rfl rfl) (N9 (X9 ?_))))))))))))))))))))))))))))))))))))))
       refine C9 rfl (fun hc113=>?_) (fun hc113=>?_)
       ·
        simp only [Bool.or_eq_true,Bool.and_eq_true,decide_eq_true_eq,true_and] at hc113
        refine Q9 (R9 (G9 rfl rfl (G9 rfl rfl (N9 (X9 ?_)))))
        refine W_ret (X_then_ret ?_)
        have hs:oneR (l.drop i)=(0,0):=(oneM_eq _ hne).symm.trans ((oneM_some (by rw [hg0]; exact h128) hld (by rw [List.length_drop]; omega) (by rw [← hrs]; exact restF_end hge _)).trans (by unfold finO; rw [if_pos (by omega)]))
        exact Xq9 [] (Ps:=[]) (res2 Tryz.results78 rfl rfl) rfl (by decide) ⟨by rw [hs] <;> rfl,rfl⟩
       ·
        simp only [Bool.or_eq_false_iff,Bool.and_eq_false_iff,decide_eq_false_iff_not,not_true_eq_false,false_or] at hc113
        refine K9 (X9 ?_)
        refine Q9 (R9 (M9 rfl rfl (M9 rfl rfl (G9 rfl rfl (G9 rfl rfl (N9 (X9 ?_)))))))
        refine W_ret ?_
        have hs:oneR (l.drop i)=(x.2,4):=(oneM_eq _ hne).symm.trans ((oneM_some (by rw [hg0]; exact h128) hld (by rw [List.length_drop]; omega) (by rw [← hrs]; exact restF_end hge _)).trans (by unfold finO; rw [if_neg (by omega)]))
        exact Xq9 [] (Ps:=[]) (res2 Tryz.results78 rfl rfl) rfl (by decide) ⟨by rw [hs] <;> rfl,rfl⟩
    ·
     simp only [Bool.and_eq_false_iff,decide_eq_false_iff_not] at hc38
     refine K9 (X_block (X9 ?_))
     refine Q9 (Q9 ?_)
     have hld:lead ((l.drop i).getD 0 0).toNat=(0,0):=by rw [hg0]; unfold lead; rw [if_neg (by omega),if_neg (by omega),if_neg (by omega)]
     refine R9 (M9 rfl rfl (L9 rfl (Pn9 rfl rfl rfl (run_eql _ _ _ _ _ _)) (M9 rfl rfl (Lg9 rfl rfl rfl rfl (by decide) (fun hb=>(Pm9 rfl rfl)) (Lg9 rfl rfl rfl rfl (by decide) (fun hb=>(Pm9 rfl rfl)) (Lg9 rfl rfl rfl rfl (by decide) (fun hb=>(Pn9 rfl (ev_gv rfl hb) (ev_gv rfl hb) (run_add _ _ _ _ _ (by omega)))) (Lg9 rfl rfl rfl rfl (by decide) (fun hb=>(Pm9 rfl rfl)) (Lg9 rfl rfl rfl rfl (by decide) (fun hb=>(Pu_lenStr rfl Tryz.underlying9 (ev_gv rfl hb))) (Lg9 rfl rfl rfl rfl (by decide) (fun hb=>(Pn9 rfl (ev_gv rfl hb) (ev_gv rfl hb) (run_gtr _ _ _ _ _ _))) (L9 rfl (Pu_or rfl rfl rfl) (N9 (X9 ?_))))))))))))
     refine W_true rfl (rfl) ?_
     refine Q9 (R9 (G9 rfl rfl (G9 rfl rfl (N9 (X9 ?_)))))
     refine W_ret (X_then_ret ?_)
     have hs:oneR (l.drop i)=(0,0):=(oneM_eq _ hne).symm.trans (oneM_short (by rw [hg0]; exact h128) hld (.inl rfl))
     exact Xq9 [] (Ps:=[]) (res2 Tryz.results78 rfl rfl) rfl (by decide) ⟨by rw [hs] <;> rfl,rfl⟩
theorem check_rspec (l:List UInt8) (hl:l.length≤140737488355328) (F:HP):CallsS Tryz.prog 50 #[sV l] F [] (fun v Ps=>v = .int .i64 (checkN l:Int)∧Ps=[]):=by
 refine callsS_enter Tryz.func50 rfl Tryz.ntmps50 (by simp) (fun E=>?_)
 refine Q9 (R9 (G9 rfl rfl (N9 (X9 (Q9 (R9 (G9 rfl rfl (N9 (X9 (Q9 (R9 (M9 rfl rfl (L9 rfl (Pn9 rfl rfl rfl (run_strEq _ _ _ _ _)) (M9 rfl rfl (Lg9 rfl rfl rfl rfl (by decide) (fun hb=>(Pm9 rfl rfl)) (Lg9 rfl rfl rfl rfl (by decide) (fun hb=>(Pn9 rfl (ev_gv rfl hb) rfl (run_strEq _ _ _ _ _))) (L9 rfl (Pu_or rfl rfl rfl) (M9 rfl rfl (Lg9 rfl rfl rfl rfl (by decide) (fun hb=>(Pm9 rfl rfl)) (Lg9 rfl rfl rfl rfl (by decide) (fun hb=>(Pn9 rfl (ev_gv rfl hb) rfl (run_strEq _ _ _ _ _))) (L9 rfl (Pu_or rfl rfl rfl) (G9 rfl rfl (N9 (X9 (Q9 (R9 (G9 rfl rfl (N9 (X9 (Q9 ?_))))))))))))))))))))))))))))))
 refine W_block ?_
 refine W_loop (α:=Nat × Nat × Bool) (fun x=>[(0,sV l),(3,.int .i64 (x.2.1:Int)),(4,.bool x.2.2),(5,.int .i64 (x.1:Int))]) (fun x=>[(0,F)]) (fun x=>chk (l.drop x.1) x.2.1 x.2.2=checkN l∧x.2.1≤x.1∧x.1≤l.length) (fun x=>l.length - x.1) ((0,0,bad0 l)) ⟨rfl,Nat.le_refl _,Nat.zero_le _⟩ (a9 rfl) ⟨rfl,trivial⟩ (fun x hx=>?_)
 obtain ⟨hchk,hnp,hpl⟩:=hx
 refine Q9 (Q9 (R9 (M9 rfl rfl (M9 rfl rfl (L9 rfl (Pu_lenStr rfl Tryz.underlying9 rfl) (L9 rfl (Pn9 rfl rfl rfl (run_lss _ _ _ _ _ _)) (N9 (X9 ?_))))))))
 refine C9 rfl (fun hc21=>?_) (fun hc21=>?_)
 ·
  have hlt:x.1 < l.length:=by have:=of_decide_eq_true hc21; omega
  have hne:l.drop x.1≠[]:=by intro hc; have:=congrArg List.length hc; simp at this; omega
  have hw:=decodeL_width (l.drop x.1)
  have hle:=decodeL_le (l.drop x.1) hne
  rw [List.length_drop] at hle
  refine K9 (X9 ?_)
  refine W_block ?_
  refine Q9 (R9 (M9 rfl rfl (M9 rfl rfl (Lc9 rfl rfl (by decide) (Oc9 200 [0] [] rfl Tryz.call78 rfl rfl rfl (by decide) (by decide) (one_rspec l x.1 hlt hl _) (fun v25 Ps25 hR25=>?_))))))
  obtain ⟨rfl,rfl⟩:=hR25
  refine (M9 rfl rfl (L9 rfl (Pe9 rfl rfl rfl) (L9 rfl (Pe9 rfl rfl rfl) (G9 rfl rfl (G9 rfl rfl (N9 (X9 ?_)))))))
  refine Q9 (Q9 (R9 (M9 rfl rfl (L9 rfl (Pn9 rfl rfl rfl (run_eql _ _ _ _ _ _)) (N9 (X9 ?_))))))
  refine C9 rfl (fun hc29=>?_) (fun hc29=>?_)
  ·
   have hno:noRune (l.drop x.1)=true:=oneR_zero hc29
   refine Q9 (R9 (G9 rfl rfl (N9 (X9 ?_))))
   refine W_ret (X_then_ret (X_block_ret (X_then_ret (X_block_ret (X_then_ret ?_)))))
   exact Xq9 [] (Ps:=[]) (res1 Tryz.results50 rfl) rfl (by decide) ⟨by rw [← hchk,chk_none hne hno] <;> rfl,rfl⟩
  ·
   have hno:noRune (l.drop x.1)=false:=oneR_pos hc29
   rw [show oneR (l.drop x.1)=decodeL (l.drop x.1) from by unfold oneR; rw [hno]; rfl]
   refine K9 (X9 ?_)
   refine Q9 (R9 (M9 rfl rfl (M9 rfl rfl (Lg9 rfl rfl rfl rfl (by decide) (fun hb=>(Pm9 rfl rfl)) (Lg9 rfl rfl rfl rfl (by decide) (fun hb=>(Pn9 rfl (ev_gv rfl hb) rfl (run_eql _ _ _ _ _ _))) (L9 rfl (Pu_or rfl rfl rfl) (M9 rfl rfl (Lg9 rfl rfl rfl rfl (by decide) (fun hb=>(Pm9 rfl rfl)) (Lg9 rfl rfl rfl rfl (by decide) (fun hb=>(Pn9 rfl (ev_gv rfl hb) rfl (run_lss _ _ _ _ _ _))) (L9 rfl (Pu_or rfl rfl rfl) (M9 rfl rfl (Lg9 rfl rfl rfl rfl (by decide) (fun hb=>(Pm9 rfl rfl)) (Lg9 rfl rfl rfl rfl (by decide) (fun hb=>(Pn9 rfl (ev_gv rfl hb) rfl (run_eql _ _ _ _ _ _))) (L9 rfl (Pu_or rfl rfl rfl) (G9 rfl rfl (N9 (X9 (Q9 (R9 (M9 rfl rfl (L9 rfl (Pn9 rfl rfl rfl (run_add _ _ _ _ _ (by omega))) (G9 rfl rfl (N9 (X9 (R9 (M9 rfl rfl (M9 rfl rfl (L9 rfl (Pn9 rfl rfl rfl (run_add _ _ _ _ _ (by omega))) (G9 rfl rfl (N9 (X_block ?_)))))))))))))))))))))))))))))))
   exact Xr9 (x.1 + (decodeL (l.drop x.1)).2,x.2.1 + 1,(x.2.2 || wrongR (decodeL (l.drop x.1)).1)) ⟨by rw [← hchk,chk_some hne hno,List.drop_drop],by show x.2.1 + 1≤x.1 + _; omega,by show x.1 + _≤l.length; omega⟩ (by show l.length - (x.1 + _) < l.length - x.1; omega) ⟨rfl,rfl,congrArg some (bool_val (wrongR_ref _ _)),rfl,trivial⟩ ⟨rfl,trivial⟩
 ·
  have hge:l.length≤x.1:=by have:=of_decide_eq_false hc21; omega
  have hend:l.drop x.1=[]:=List.drop_of_length_le hge
  rw [hend,chk_nil] at hchk
  refine W_exit (X_then_exit (X_then_exit (X_block_exit (X9 ?_))))
  refine Q9 (Q9 (R9 (M9 rfl rfl (N9 (X9 ?_)))))
  refine C9 rfl (fun hc48=>?_) (fun hc48=>?_)
  ·
   have hb:=hc48
   refine Q9 (R9 (G9 rfl rfl (N9 (X9 ?_))))
   refine W_ret (X_then_ret ?_)
   exact Xq9 [] (Ps:=[]) (res1 Tryz.results50 rfl) rfl (by decide) ⟨by rw [← hchk,finC,hb] <;> rfl,rfl⟩
  ·
   have hb:=hc48
   refine K9 (X9 ?_)
   refine Q9 (Q9 (R9 (M9 rfl rfl (L9 rfl (Pn9 rfl rfl rfl (run_gtr _ _ _ _ _ _)) (N9 (X9 ?_))))))
   refine C9 rfl (fun hc50=>?_) (fun hc50=>?_)
   ·
    have hb2:=of_decide_eq_true hc50
    refine Q9 (R9 (G9 rfl rfl (N9 (X9 ?_))))
    refine W_ret (X_then_ret ?_)
    exact Xq9 [] (Ps:=[]) (res1 Tryz.results50 rfl) rfl (by decide) ⟨by rw [← hchk,finC,hb,if_neg (by decide),if_pos (by omega)] <;> rfl,rfl⟩
   ·
    have hb2:=of_decide_eq_false hc50
    refine K9 (X9 ?_)
    refine Q9 (R9 (G9 rfl rfl (N9 (X9 ?_))))
    refine W_ret ?_
    exact Xq9 [] (Ps:=[]) (res1 Tryz.results50 rfl) rfl (by decide) ⟨by rw [← hchk,finC,hb,if_neg (by decide),if_neg (by omega)] <;> rfl,rfl⟩
end Go.Proofs.YthkdkmaacjpneaaGreatDoor
namespace Go.Proofs.YthkdkmaacjpneaaGreatDoor
open Go.RowKit Go.Lib
set_option maxRecDepth 8000

theorem beq_false_of {b:Bool} (h:(b == false)=true):b=false:=by simpa using h
theorem beq_true_of {b:Bool} (h:(b == true)=true):b=true:=by simpa using h
theorem run_geqStr {P:Program} (a b:List UInt8) (t:TypeId) (x y:Operand) (w:World):((do eqGuard .geq t x y (sV a) (sV b); binOp .geq t (sV a) (sV b):Sem Value)).run P w = .ok (.bool (!Op.bytesLess a b)) w:=by
  simp [eqGuard,binOp,Op.stringOp,strB_toList]
theorem run_leqStr {P:Program} (a b:List UInt8) (t:TypeId) (x y:Operand) (w:World):((do eqGuard .leq t x y (sV a) (sV b); binOp .leq t (sV a) (sV b):Sem Value)).run P w = .ok (.bool (Op.bytesLess a b || a == b)) w:=by
  simp [eqGuard,binOp,Op.stringOp,strB_toList]
theorem ent_nameZ {es:List Ent} (h:Ents es) {k:Nat} (hk:k < es.length) {i:Int} (hi:i=(k:Int)):(recC entF es)[i.toNat * 33 + 0]?=some (sV (es.getD k ent0).1):=by
  subst hi
  exact ent_name h hk
theorem bad_spec (v:Value) (es:List Ent) (hE:Ents es) (hl:es.length≤140737488355328) (hn:∀ e ∈ es,e.1.length≤140737488355328) (F:HP) (hF:∀ h,F h→rdE v es h) (hT:∀ h,F h→tabsP h):CallsS Tryz.prog 98 #[v] F [] (fun r Ps=>r = .int .i64 (dirE es:Int)∧Ps=[]):=by
 refine callsS_enter Tryz.func98 rfl Tryz.ntmps98 (by simp) (fun E=>?_)
 refine Q9 (R9 (G9 rfl rfl (N9 (X9 (Q9 (Q9 (R9 (M9 rfl rfl (L9 rfl (Pl9 (r:=0) rfl Tryz.runUnderlying118 rfl rfl hF) (M9 rfl rfl (N9 (X9 ?_))))))))))))
 refine W_block ?_
 refine W_loop (α:=Nat) (fun i=>[(0,v),(7,v),(8,.int .i64 (es.length:Int)),(9,.int .i64 (i:Int))]) (fun i=>[(0,F)]) (fun i=>i≤es.length∧firstBad ((nms es).drop i)=firstBad (nms es)) (fun i=>es.length - i) (0) ⟨Nat.zero_le _,rfl⟩ (a9 rfl) ⟨rfl,trivial⟩ (fun x hx=>?_)
 obtain ⟨hxl,hfb⟩:=hx
 refine Q9 (R9 (L9 rfl (Pn9 rfl rfl rfl (run_lss _ _ _ _ _ _)) (N9 (X9 (Q9 ?_)))))
 refine C9 rfl (fun hc10=>?_) (fun hc10=>?_)
 ·
  have hlt:x < es.length:=by have:=of_decide_eq_true hc10; omega
  refine K9 (X9 ?_)
  refine Q9 ?_
  refine W_block ?_
  refine Q9 (R9 (L9 rfl (Pi9 (r:=0) rfl Tryz.runUnderlying118 Tryz.sizeOf122 rfl rfl rfl hF (by omega)) (L9 rfl (Pz9 (r:=0) rfl Tryz.isAgg122 Tryz.sizeOf122 rfl rfl hF (entC_length (hE.get hlt)) (by decide) (ent_all hE hlt)) (Lc9 rfl rfl (by decide) (OpT_alloc (r:=101) rfl (zero_run (by kernel_rfl:(Tryz.prog.info? 122).bind (·.zero)=some (.agg (entC [] zeroId).toArray))) rfl (fun g101=>(Lc09 rfl rfl (OpT_storeAll (r:=101) rfl Tryz.sizeOf122 rfl rfl rfl rfl (entC_length (hE.get hlt)) (entC_one _ _) ?_))))))))
  refine (N9 (X9 ?_))
  refine Q9 (R9 (L9 rfl (F9 0 rfl rfl) (L9 rfl (Pb9 (r:=101) rfl Tryz.isAgg9 rfl rfl rfl) (Lc9 rfl rfl (by decide) (Oc9 200 [0,101] [] rfl Tryz.call90 rfl rfl rfl (by decide) (by decide) (check_spec (es.getD x ent0).1 (hn _ (getD_mem' hlt)) _ (ts9 0 rfl hT)) (fun v15 Ps15 hR15=>?_))))))
  obtain ⟨rfl,rfl⟩:=hR15
  refine (G9 rfl rfl (N9 (X9 ?_)))
  refine Q9 (R9 (M9 rfl rfl (L9 rfl (Pn9 rfl rfl rfl (run_neq _ _ _ _ _ _)) (N9 (X9 ?_)))))
  refine C9 rfl (fun hc17=>?_) (fun hc17=>?_)
  ·
   have hne:¬ (checkN (es.getD x ent0).1:Int)=0:=by simpa using hc17
   have hbad:firstBad (nms es)=checkN (es.getD x ent0).1:=by rw [← hfb,firstBad_bad (by rw [nms_length]; exact hlt) (by rw [nms_at hlt]; exact hne),nms_at hlt]
   refine Q9 (R9 (M9 rfl rfl (G9 rfl rfl (N9 (X9 ?_)))))
   refine W_ret (X_block_ret (X_then_ret (X_then_ret (X_block_ret (X_then_ret ?_)))))
   exact Xq9 [] (Ps:=[]) (res1 Tryz.results98 rfl) rfl (by decide) ⟨by rw [dirE_bad (by rw [hbad]; omega),hbad],rfl⟩
  ·
   have hgood:firstBad ((nms es).drop x)=firstBad ((nms es).drop (x + 1)):=firstBad_good (by rw [nms_length]; exact hlt) (by rw [nms_at hlt]; simpa using hc17)
   refine K9 (X_block (X9 ?_))
   refine R9 (L9 rfl (Pn9 rfl rfl rfl (run_add _ _ _ _ _ (by omega))) (M9 rfl rfl (N9 ?_)))
   exact Xr9 (x + 1) ⟨hlt,by rw [← hfb,hgood]⟩ (by omega) (a9 rfl) ⟨rfl,trivial⟩
 ·
  have hge:es.length≤x:=by have:=of_decide_eq_false hc10; omega
  have hfb0:firstBad (nms es)=0:=by rw [← hfb]; exact firstBad_end (by rw [nms_length]; exact hge)
  refine W_exit (X_then_exit (X_then_exit (X_block_exit (X9 ?_))))
  refine Q9 (Q9 (R9 (M9 rfl rfl (L9 rfl (Pl9 (r:=0) rfl Tryz.runUnderlying118 rfl rfl hF) (M9 rfl rfl (N9 (X9 ?_)))))))
  refine W_block ?_
  refine W_loop (α:=Nat) (fun i=>[(0,v),(21,.int .i64 (es.length:Int)),(22,.int .i64 (i:Int))]) (fun i=>[(0,F)]) (fun i=>i≤es.length + 1∧riseP (nms es) i) (fun i=>es.length + 1 - i) (0) ⟨by omega,fun j hj h1=>by omega⟩ (a9 rfl) ⟨rfl,trivial⟩ (fun k hk=>?_)
  obtain ⟨hkl,hri⟩:=hk
  refine Q9 (R9 (L9 rfl (Pn9 rfl rfl rfl (run_lss _ _ _ _ _ _)) (N9 (X9 (Q9 ?_)))))
  refine C9 rfl (fun hc23=>?_) (fun hc23=>?_)
  ·
   have hlt2:k < es.length:=by have:=of_decide_eq_true hc23; omega
   refine K9 (X9 ?_)
   refine Q9 ?_
   refine W_block ?_
   refine Q9 (R9 (M9 rfl rfl (G9 rfl rfl (N9 (X9 (Q9 ?_))))))
   refine W_draw (N:=16) (by kernel_rfl) rfl [(0,_)] ⟨rfl,trivial⟩ ?_
   refine (T9 0 rfl rfl (Pm9 rfl rfl) (T9 1 rfl rfl (Pn9 rfl rfl rfl (run_gtr _ _ _ _ _ _)) (T9 2 rfl rfl (Pm9 rfl rfl) (AH_takeG 3 rfl (by kernel_rfl) (by kernel_rfl) (by kernel_rfl) rfl rfl rfl rfl (by decide) (fun hb=>(Pm9 rfl rfl)) (AH_takeG 4 rfl (by kernel_rfl) (by kernel_rfl) (by kernel_rfl) rfl rfl rfl rfl (by decide) (fun hb=>(Pm9 rfl rfl)) (AH_takeG 5 rfl (by kernel_rfl) (by kernel_rfl) (by kernel_rfl) rfl rfl rfl rfl (by decide) (fun hb=>(Pn9 rfl (ev_gv rfl hb) rfl (run_sub _ _ _ _ _ (by have:=of_decide_eq_true (beq_true_of hb); omega)))) (AH_takeG 6 rfl (by kernel_rfl) (by kernel_rfl) (by kernel_rfl) rfl rfl rfl rfl (by decide) (fun hb=>(Pi9 (r:=0) rfl Tryz.runUnderlying118 Tryz.sizeOf122 (ev_gv rfl hb) (ev_gv rfl hb) rfl hF (by have:=of_decide_eq_true (beq_true_of hb); omega))) (AH_takeG 7 rfl (by kernel_rfl) (by kernel_rfl) (by kernel_rfl) rfl rfl rfl rfl (by decide) (fun hb=>(Pu_fieldAddrE (off:=0) rfl (ev_gv rfl hb) (by kernel_rfl))) (AH_takeG 8 rfl (by kernel_rfl) (by kernel_rfl) (by kernel_rfl) rfl rfl rfl rfl (by decide) (fun hb=>(Py9 (r:=0) rfl Tryz.isAgg9 (ev_gv rfl hb) rfl hF (by have h0:=of_decide_eq_true (beq_true_of hb); exact ent_nameZ hE (k:=k - 1) (by omega) (by omega)))) (AH_takeG 9 rfl (by kernel_rfl) (by kernel_rfl) (by kernel_rfl) rfl rfl rfl rfl (by decide) (fun hb=>(Pm9 rfl rfl)) (AH_takeG 10 rfl (by kernel_rfl) (by kernel_rfl) (by kernel_rfl) rfl rfl rfl rfl (by decide) (fun hb=>(Pm9 rfl rfl)) (AH_takeG 11 rfl (by kernel_rfl) (by kernel_rfl) (by kernel_rfl) rfl rfl rfl rfl (by decide) (fun hb=>(Pi9 (r:=0) rfl Tryz.runUnderlying118 Tryz.sizeOf122 (ev_gv rfl hb) (ev_gv rfl hb) rfl hF (by omega))) (AH_takeG 12 rfl (by kernel_rfl) (by kernel_rfl) (by kernel_rfl) rfl rfl rfl rfl (by decide) (fun hb=>(Pu_fieldAddrE (off:=0) rfl (ev_gv rfl hb) (by kernel_rfl))) (AH_takeG 13 rfl (by kernel_rfl) (by kernel_rfl) (by kernel_rfl) rfl rfl rfl rfl (by decide) (fun hb=>(Py9 (r:=0) rfl Tryz.isAgg9 (ev_gv rfl hb) rfl hF (ent_nameZ hE (k:=k) hlt2 rfl))) (AH_takeG 14 rfl (by kernel_rfl) (by kernel_rfl) (by kernel_rfl) rfl rfl rfl rfl (by decide) (fun hb=>(Pn9 rfl (ev_gv rfl hb) (ev_gv rfl hb) (run_geqStr (es.getD (k - 1) ent0).1 (es.getD k ent0).1 _ _ _))) (T9 15 rfl rfl (Pu_and rfl rfl rfl) (Ad9 (by kernel_rfl) (X9 ?_))))))))))))))))))
   refine C9 rfl (fun hc40=>?_) (fun hc40=>?_)
   ·
    simp only [Bool.and_eq_true,decide_eq_true_eq] at hc40
    have hk1:1≤k:=by omega
    have hfall:¬ riseP (nms es) es.length:=riseP_not hk1 hlt2 (by rw [nms_at (by omega),nms_at hlt2]; simpa using hc40.2)
    refine Q9 (R9 (G9 rfl rfl (N9 (X9 ?_))))
    refine W_ret (X_block_ret (X_then_ret (X_then_ret (X_block_ret (X_then_ret ?_)))))
    exact Xq9 [] (Ps:=[]) (res1 Tryz.results98 rfl) rfl (by decide) ⟨by rw [dirE_fall hfb0 hfall] <;> rfl,rfl⟩
   ·
    simp only [Bool.and_eq_false_iff,decide_eq_false_iff_not] at hc40
    have hup:1≤k→Op.bytesLess ((nms es).getD (k - 1) []) ((nms es).getD k [])=true:=fun hk1=>by rw [nms_at (by omega),nms_at hlt2]; simpa using hc40.resolve_left (by omega)
    refine K9 (X_block (X9 ?_))
    refine R9 (L9 rfl (Pn9 rfl rfl rfl (run_add _ _ _ _ _ (by omega))) (M9 rfl rfl (N9 ?_)))
    exact Xr9 (k + 1) ⟨by omega,riseP_succ hri hup⟩ (by omega) (a9 rfl) ⟨rfl,trivial⟩
  ·
   have hge2:es.length≤k:=by have:=of_decide_eq_false hc23; omega
   have hris:riseP (nms es) es.length:=fun j hj h1=>hri j (by omega) h1
   refine W_exit (X_then_exit (X_then_exit (X_block_exit (X9 ?_))))
   refine Q9 (Q9 (R9 (M9 rfl rfl (L9 rfl (Pl9 (r:=0) rfl Tryz.runUnderlying118 rfl rfl hF) (L9 rfl (Pn9 rfl rfl rfl (run_gtr _ _ _ _ _ _)) (N9 (X9 ?_)))))))
   refine C9 rfl (fun hc44=>?_) (fun hc44=>?_)
   ·
    have h20:20 < es.length:=by have:=of_decide_eq_true hc44; omega
    refine Q9 (R9 (G9 rfl rfl (N9 (X9 ?_))))
    refine W_ret (X_then_ret ?_)
    exact Xq9 [] (Ps:=[]) (res1 Tryz.results98 rfl) rfl (by decide) ⟨by rw [dirE_many hfb0 hris h20] <;> rfl,rfl⟩
   ·
    have h20:¬ 20 < es.length:=by have:=of_decide_eq_false hc44; omega
    refine K9 (X9 ?_)
    refine Q9 (R9 (G9 rfl rfl (N9 (X9 ?_))))
    refine W_ret ?_
    exact Xq9 [] (Ps:=[]) (res1 Tryz.results98 rfl) rfl (by decide) ⟨by rw [dirE_ok hfb0 hris h20] <;> rfl,rfl⟩
theorem wrongDir_spec (v:Value) (es:List Ent) (hE:Ents es) (hl:es.length≤140737488355328) (hn:∀ e ∈ es,e.1.length≤140737488355328) (F:HP) (hF:∀ h,F h→rdE v es h):CallsS Tryz.prog 114 #[v] F [] (fun r Ps=>r = .int .i64 (dirE es:Int)∧Ps=[]):=by
 refine callsS_enter Tryz.func114 rfl Tryz.ntmps114 (by simp) (fun E=>?_)
 refine Q9 (R9 (G9 rfl rfl (N9 (X9 (Q9 (Q9 (R9 (G9 rfl rfl (N9 (X9 ?_))))))))))
 refine W_block ?_
 refine W_loop (α:=Nat) (fun i=>[(0,v),(3,.int .i64 (i:Int))]) (fun i=>[(0,F)]) (fun i=>i≤es.length∧firstBad ((nms es).drop i)=firstBad (nms es)) (fun i=>es.length - i) (0) ⟨Nat.zero_le _,rfl⟩ (a9 rfl) ⟨rfl,trivial⟩ (fun x hx=>?_)
 obtain ⟨hxl,hfb⟩:=hx
 refine Q9 (Q9 (R9 (M9 rfl rfl (M9 rfl rfl (L9 rfl (Pl9 (r:=0) rfl Tryz.runUnderlying118 rfl rfl hF) (L9 rfl (Pn9 rfl rfl rfl (run_lss _ _ _ _ _ _)) (N9 (X9 ?_))))))))
 refine C9 rfl (fun hc8=>?_) (fun hc8=>?_)
 ·
  have hlt:x < es.length:=by have:=of_decide_eq_true hc8; omega
  refine K9 (X9 ?_)
  refine Q9 ?_
  refine W_block ?_
  refine Q9 (R9 (M9 rfl rfl (M9 rfl rfl (L9 rfl (Pi9 (r:=0) rfl Tryz.runUnderlying118 Tryz.sizeOf122 rfl rfl rfl hF (by omega)) (L9 rfl (Pu_fieldAddrE (off:=0) rfl rfl (by kernel_rfl)) (L9 rfl (Py9 (r:=0) rfl Tryz.isAgg9 rfl rfl hF (ent_name hE hlt)) (Lc9 rfl rfl (by decide) (Oc9 200 [0] [] rfl Tryz.call50 rfl rfl rfl (by decide) (by decide) (check_rspec (es.getD x ent0).1 (hn _ (getD_mem' hlt)) _) (fun v16 Ps16 hR16=>?_)))))))))
  obtain ⟨rfl,rfl⟩:=hR16
  refine (L9 rfl (Pn9 rfl rfl rfl (run_neq _ _ _ _ _ _)) (N9 (X9 ?_)))
  refine C9 rfl (fun hc17=>?_) (fun hc17=>?_)
  ·
   have hne:¬ (checkN (es.getD x ent0).1:Int)=0:=by simpa using hc17
   have hbad:firstBad (nms es)=checkN (es.getD x ent0).1:=by rw [← hfb,firstBad_bad (by rw [nms_length]; exact hlt) (by rw [nms_at hlt]; exact hne),nms_at hlt]
   refine Q9 (R9 (M9 rfl rfl (M9 rfl rfl (L9 rfl (Pi9 (r:=0) rfl Tryz.runUnderlying118 Tryz.sizeOf122 rfl rfl rfl hF (by omega)) (L9 rfl (Pu_fieldAddrE (off:=0) rfl rfl (by kernel_rfl)) (L9 rfl (Py9 (r:=0) rfl Tryz.isAgg9 rfl rfl hF (ent_name hE hlt)) (Lc9 rfl rfl (by decide) (Oc9 300 [0] [] rfl Tryz.call50 rfl rfl rfl (by decide) (by decide) (check_rspec (es.getD x ent0).1 (hn _ (getD_mem' hlt)) _) (fun v23 Ps23 hR23=>?_)))))))))
   obtain ⟨rfl,rfl⟩:=hR23
   refine (G9 rfl rfl (N9 (X9 ?_)))
   refine W_ret (X_block_ret (X_then_ret (X_then_ret (X_block_ret (X_then_ret ?_)))))
   exact Xq9 [] (Ps:=[]) (res1 Tryz.results114 rfl) rfl (by decide) ⟨by rw [dirE_bad (by rw [hbad]; omega),hbad],rfl⟩
  ·
   have hgood:firstBad ((nms es).drop x)=firstBad ((nms es).drop (x + 1)):=firstBad_good (by rw [nms_length]; exact hlt) (by rw [nms_at hlt]; simpa using hc17)
   refine K9 (X_block (X9 ?_))
   refine R9 (M9 rfl rfl (L9 rfl (Pn9 rfl rfl rfl (run_add _ _ _ _ _ (by omega))) (G9 rfl rfl (N9 ?_))))
   exact Xr9 (x + 1) ⟨hlt,by rw [← hfb,hgood]⟩ (by omega) (a9 rfl) ⟨rfl,trivial⟩
 ·
  have hge:es.length≤x:=by have:=of_decide_eq_false hc8; omega
  have hfb0:firstBad (nms es)=0:=by rw [← hfb]; exact firstBad_end (by rw [nms_length]; exact hge)
  refine W_exit (X_then_exit (X_then_exit (X_block_exit (X9 ?_))))
  refine Q9 (Q9 (R9 (G9 rfl rfl (N9 (X9 ?_)))))
  refine W_block ?_
  refine W_loop (α:=Nat) (fun i=>[(0,v),(4,.int .i64 (i:Int))]) (fun i=>[(0,F)]) (fun i=>i≤es.length + 1∧1≤i∧riseP (nms es) i) (fun i=>es.length + 1 - i) (1) ⟨by omega,Nat.le_refl _,fun j hj h1=>by omega⟩ (a9 rfl) ⟨rfl,trivial⟩ (fun k hk=>?_)
  obtain ⟨hkl,hk1,hri⟩:=hk
  refine Q9 (Q9 (R9 (M9 rfl rfl (M9 rfl rfl (L9 rfl (Pl9 (r:=0) rfl Tryz.runUnderlying118 rfl rfl hF) (L9 rfl (Pn9 rfl rfl rfl (run_lss _ _ _ _ _ _)) (N9 (X9 ?_))))))))
  refine C9 rfl (fun hc27=>?_) (fun hc27=>?_)
  ·
   have hlt2:k < es.length:=by have:=of_decide_eq_true hc27; omega
   refine K9 (X9 ?_)
   refine Q9 ?_
   refine W_block ?_
   refine Q9 ?_
   refine W_draw (N:=12) (by kernel_rfl) rfl [(0,_)] ⟨rfl,trivial⟩ ?_
   refine (T9 0 rfl rfl (Pm9 rfl rfl) (T9 1 rfl rfl (Pm9 rfl rfl) (T9 2 rfl rfl (Pi9 (r:=0) rfl Tryz.runUnderlying118 Tryz.sizeOf122 rfl rfl rfl hF (by omega)) (T9 3 rfl rfl (Pu_fieldAddrE (off:=0) rfl rfl (by kernel_rfl)) (T9 4 rfl rfl (Py9 (r:=0) rfl Tryz.isAgg9 rfl rfl hF (ent_nameZ hE (k:=k) hlt2 rfl)) (T9 5 rfl rfl (Pm9 rfl rfl) (T9 6 rfl rfl (Pm9 rfl rfl) (T9 7 rfl rfl (Pn9 rfl rfl rfl (run_sub _ _ _ _ _ (by omega))) (T9 8 rfl rfl (Pi9 (r:=0) rfl Tryz.runUnderlying118 Tryz.sizeOf122 rfl rfl rfl hF (by omega)) (T9 9 rfl rfl (Pu_fieldAddrE (off:=0) rfl rfl (by kernel_rfl)) (T9 10 rfl rfl (Py9 (r:=0) rfl Tryz.isAgg9 rfl rfl hF (ent_nameZ hE (k:=k - 1) (by omega) (by omega))) (T9 11 rfl rfl (Pn9 rfl rfl rfl (run_leqStr (es.getD k ent0).1 (es.getD (k - 1) ent0).1 _ _ _)) (Ad9 (by kernel_rfl) (X9 ?_))))))))))))))
   refine C9 rfl (fun hc41=>?_) (fun hc41=>?_)
   ·
    have htri:=less_tri (es.getD (k - 1) ent0).1 (es.getD k ent0).1
    have hfall:¬ riseP (nms es) es.length:=riseP_not hk1 hlt2 (by rw [nms_at (by omega),nms_at hlt2]; rw [hc41] at htri; simpa using htri)
    refine Q9 (R9 (G9 rfl rfl (N9 (X9 ?_))))
    refine W_ret (X_block_ret (X_then_ret (X_then_ret (X_block_ret (X_then_ret ?_)))))
    exact Xq9 [] (Ps:=[]) (res1 Tryz.results114 rfl) rfl (by decide) ⟨by rw [dirE_fall hfb0 hfall] <;> rfl,rfl⟩
   ·
    have htri:=less_tri (es.getD (k - 1) ent0).1 (es.getD k ent0).1
    have hup:1≤k→Op.bytesLess ((nms es).getD (k - 1) []) ((nms es).getD k [])=true:=fun hk1=>by rw [nms_at (by omega),nms_at hlt2]; rw [hc41] at htri; simpa using htri
    refine K9 (X_block (X9 ?_))
    refine R9 (M9 rfl rfl (L9 rfl (Pn9 rfl rfl rfl (run_add _ _ _ _ _ (by omega))) (G9 rfl rfl (N9 ?_))))
    exact Xr9 (k + 1) ⟨by omega,by omega,riseP_succ hri hup⟩ (by omega) (a9 rfl) ⟨rfl,trivial⟩
  ·
   have hge2:es.length≤k:=by have:=of_decide_eq_false hc27; omega
   have hris:riseP (nms es) es.length:=fun j hj h1=>hri j (by omega) h1
   refine W_exit (X_then_exit (X_then_exit (X_block_exit (X9 ?_))))
   refine Q9 (Q9 (R9 (M9 rfl rfl (L9 rfl (Pl9 (r:=0) rfl Tryz.runUnderlying118 rfl rfl hF) (L9 rfl (Pn9 rfl rfl rfl (run_gtr _ _ _ _ _ _)) (N9 (X9 ?_)))))))
   refine C9 rfl (fun hc44=>?_) (fun hc44=>?_)
   ·
    have h20:20 < es.length:=by have:=of_decide_eq_true hc44; omega
    refine Q9 (R9 (G9 rfl rfl (N9 (X9 ?_))))
    refine W_ret (X_then_ret ?_)
    exact Xq9 [] (Ps:=[]) (res1 Tryz.results114 rfl) rfl (by decide) ⟨by rw [dirE_many hfb0 hris h20] <;> rfl,rfl⟩
   ·
    have h20:¬ 20 < es.length:=by have:=of_decide_eq_false hc44; omega
    refine K9 (X9 ?_)
    refine Q9 (R9 (G9 rfl rfl (N9 (X9 ?_))))
    refine W_ret ?_
    exact Xq9 [] (Ps:=[]) (res1 Tryz.results114 rfl) rfl (by decide) ⟨by rw [dirE_ok hfb0 hris h20] <;> rfl,rfl⟩
end Go.Proofs.YthkdkmaacjpneaaGreatDoor
namespace Go.Proofs.YthkdkmaacjpneaaGreatDoor
open Go.RowKit Go.Lib
set_option maxRecDepth 8000

theorem entc_id {g:Nat} {t:TypeId} {nm id:List UInt8} (hid:id.length=32) {h:Hlt} (hb:blk g t (entC nm id) h):rdP 1 (.slice (some ⟨g,0 + 1,none⟩) 32 32) 32 (bs id) h :=
  blk_rd hb (by
    unfold entC
    rw [show 0 + 1=1 from rfl,List.drop_succ_cons,List.drop_zero]
    exact List.take_of_length_le (by rw [bs_length,hid]; omega)) (by rw [bs_length,hid]) (Nat.le_refl _)
theorem dir_spec (v:Value) (es:List Ent) (hE:Ents es) (hl:es.length≤140737488355328) (hn:∀ e ∈ es,e.1.length≤140737488355328) (F:HP) (hF:∀ h,F h→rdE v es h) (hT:∀ h,F h→tabsP h):CallsS Tryz.prog 68 #[v] F [] (fun r Ps=>∃ v',r = .tuple #[v',.int .i64 (dirE es:Int)]∧Ps=[rowB 5 v' (dirR es)]):=by
 refine callsS_enter Tryz.func68 rfl Tryz.ntmps68 (by simp) (fun E=>?_)
 refine Q9 (R9 (G9 rfl rfl (G9 rfl rfl (N9 (X9 (Q9 (Q9 (R9 (M9 rfl rfl (Lc9 rfl rfl (by decide) (Oc9 200 [0] [] rfl Tryz.call98 rfl rfl rfl (by decide) (by decide) (bad_spec v es hE hl hn _ (rs9 0 rfl hF) (ts9 0 rfl hT)) (fun v9 Ps9 hR9=>?_))))))))))))
 obtain ⟨rfl,rfl⟩:=hR9
 refine (G9 rfl rfl (N9 (X9 ?_)))
 refine Q9 (R9 (M9 rfl rfl (L9 rfl (Pn9 rfl rfl rfl (run_neq _ _ _ _ _ _)) (N9 (X9 ?_)))))
 refine C9 rfl (fun hc11=>?_) (fun hc11=>?_)
 ·
  have h0:¬ dirE es=0:=by simpa using hc11
  refine Q9 (R9 (M9 rfl rfl (G9 rfl rfl (G9 rfl rfl (N9 (X9 ?_))))))
  refine W_ret (X_then_ret ?_)
  refine X_nilRow 9900 5 1 ?_
  exact Xq9 [9900] (Ps:=[_]) (res2 Tryz.results68 rfl rfl) rfl (by decide) ⟨_,rfl,by unfold dirR; rw [if_neg h0]; rfl⟩
 ·
  have h0:dirE es=0:=by simpa using hc11
  obtain ⟨h48,h20⟩:=dirE_zero h0
  refine K9 (X9 ?_)
  refine Q9 (R9 (G9 rfl rfl (N9 (X9 (Q9 (Q9 (R9 (M9 rfl rfl (L9 rfl (Pl9 (r:=0) rfl Tryz.runUnderlying118 rfl rfl hF) (M9 rfl rfl (N9 (X9 ?_))))))))))))
  refine W_block ?_
  refine W_nilRow 201 5 1 ?_
  refine W_loop (α:=Nat × Value) (fun x=>[(5,x.2),(13,v),(14,.int .i64 (es.length:Int)),(15,.int .i64 (x.1:Int))]) (fun x=>[(0,F),(201,rowB 5 x.2 (dirTo es x.1))]) (fun x=>x.1≤es.length) (fun x=>es.length - x.1) ((0,.slice none 0 0)) (Nat.zero_le _) (a9 rfl) (a9 rfl) (fun x hx=>?_)
  unfold rowB
  have hxl:x.1≤es.length:=hx
  have hdl:=dirTo_len hE h48 x.1
  refine Q9 (R9 (L9 rfl (Pn9 rfl rfl rfl (run_lss _ _ _ _ _ _)) (N9 (X9 (Q9 ?_)))))
  refine C9 rfl (fun hc16=>?_) (fun hc16=>?_)
  ·
   have hlt:x.1 < es.length:=by have:=of_decide_eq_true hc16; omega
   have hid:=hE.get hlt
   have hnl:=h48 _ (getD_mem' (d:=ent0) hlt)
   refine K9 (X9 ?_)
   refine Q9 ?_
   refine W_block ?_
   refine Q9 (R9 (L9 rfl (Pi9 (r:=0) rfl Tryz.runUnderlying118 Tryz.sizeOf122 rfl rfl rfl hF (by omega)) (L9 rfl (Pz9 (r:=0) rfl Tryz.isAgg122 Tryz.sizeOf122 rfl rfl hF (entC_length hid) (by decide) (ent_all (k:=x.1) hE hlt)) (Lc9 rfl rfl (by decide) (OpT_alloc (r:=202) rfl (zero_run (by kernel_rfl:(Tryz.prog.info? 122).bind (·.zero)=some (.agg (entC [] zeroId).toArray))) rfl (fun g202=>(Lc09 rfl rfl (OpT_storeAll (r:=202) rfl Tryz.sizeOf122 rfl rfl rfl rfl (entC_length hid) (entC_one _ _) ?_))))))))
   refine (N9 (X9 ?_))
   refine Q9 (R9 (M9 rfl rfl (L9 rfl (F9 0 rfl rfl) (L9 rfl (Pb9 (r:=202) rfl Tryz.isAgg9 rfl rfl rfl) (L9 rfl (Pu_lenStr rfl Tryz.underlying9 rfl) (L9 rfl (Pu_conv rfl rfl (conv_byte _ _ Tryz.runUnderlying3 Tryz.runUnderlying5)) (Lc9 rfl rfl (by decide) (OpT_buildOnes (r:=203) (bs [byte ((es.getD x.1 ent0).1.length:Int)]) rfl rfl Tryz.runUnderlying36 Tryz.sizeOf5 Tryz.zeroValue5 rfl rfl (by decide) rfl (bs_cells _) (fun v24=>(Lc9 rfl rfl (by decide) (Oa9 (r:=201) (r2:=203) rfl Tryz.underlying36 TI.hi5 TI.hz5 TI.hs5 TI.hby5 TI.hzs5 (by decide) rfl rfl rfl rfl (fun _ h=>rp9 h) (bs_one _) (by unfold maxLen; omega) (by omega) (fun v25=>?_))))))))))))
   refine (G9 rfl rfl (N9 (X9 ?_)))
   refine Q9 (R9 (M9 rfl rfl (L9 rfl (F9 0 rfl rfl) (L9 rfl (Pb9 (r:=202) rfl Tryz.isAgg9 rfl rfl rfl) (Lc9 rfl rfl (by decide) (OpT_appendStr (r:=201) rfl Tryz.underlying36 Tryz.underlying9 TI.hi5 TI.hz5 TI.hs5 TI.hby5 TI.hzs5 rfl rfl rfl (by unfold maxLen; omega) (by omega) (fun v29=>?_)))))))
   refine (G9 rfl rfl (N9 (X9 ?_)))
   refine R9 (M9 rfl rfl (L9 rfl (F9 1 rfl rfl) (L9 rfl (Pu_sliceArr rfl Tryz.runUnderlying29 Tryz.sizeOf5 rfl) (Lc9 rfl rfl (by decide) (Oa9 (r:=201) (r2:=202) rfl Tryz.underlying36 TI.hi5 TI.hz5 TI.hs5 TI.hby5 TI.hzs5 (by decide) rfl rfl rfl rfl (fun h hp=>entc_id hid hp) (bs_one _) (by unfold maxLen; omega) (by omega) (fun v33=>?_))))))
   refine (G9 rfl rfl (N9 (X_block (X9 ?_))))
   refine R9 (L9 rfl (Pn9 rfl rfl rfl (run_add _ _ _ _ _ (by omega))) (M9 rfl rfl (N9 ?_)))
   exact Xr9 (x.1 + 1,v33) hlt (by dsimp only; omega) ⟨rfl,rfl,rfl,rfl,trivial⟩ ⟨rfl,look_eq rfl (rowB_of (dirTo es (x.1 + 1)) (by rw [dirTo_succ hlt]; simp only [List.length_append,List.length_cons,List.length_nil,hid]) (by rw [dirTo_succ hlt,bs_append,bs_append,bs_append])),trivial⟩
  ·
   obtain hfin:x.1=es.length:=by have:=of_decide_eq_false hc16; omega
   refine W_exit (X_then_exit (X_then_exit (X_block_exit (X9 ?_))))
   refine Q9 (R9 (M9 rfl rfl (G9 rfl rfl (G9 rfl rfl (N9 (X9 ?_))))))
   refine W_ret ?_
   exact Xq9 [201] (Ps:=[_]) (res2 Tryz.results68 rfl rfl) rfl (by decide) ⟨_,by rw [h0] <;> rfl,by unfold dirR; rw [if_pos h0,hfin,dirTo_all]⟩
theorem refDir_spec (v:Value) (es:List Ent) (hE:Ents es) (hl:es.length≤140737488355328) (hn:∀ e ∈ es,e.1.length≤140737488355328) (F:HP) (hF:∀ h,F h→rdE v es h):CallsS Tryz.prog 77 #[v] F [] (fun r Ps=>∃ v',r = .tuple #[v',.int .i64 (dirE es:Int)]∧Ps=[rowB 5 v' (dirR es)]):=by
 refine callsS_enter Tryz.func77 rfl Tryz.ntmps77 (by simp) (fun E=>?_)
 refine Q9 (R9 (G9 rfl rfl (G9 rfl rfl (N9 (X9 (Q9 (Q9 (R9 (M9 rfl rfl (Lc9 rfl rfl (by decide) (Oc9 200 [0] [] rfl Tryz.call114 rfl rfl rfl (by decide) (by decide) (wrongDir_spec v es hE hl hn _ (rs9 0 rfl hF)) (fun v7 Ps7 hR7=>?_))))))))))))
 obtain ⟨rfl,rfl⟩:=hR7
 refine (L9 rfl (Pn9 rfl rfl rfl (run_neq _ _ _ _ _ _)) (N9 (X9 ?_)))
 refine C9 rfl (fun hc8=>?_) (fun hc8=>?_)
 ·
  have h0:¬ dirE es=0:=by simpa using hc8
  refine Q9 (R9 (M9 rfl rfl (Lc9 rfl rfl (by decide) (Oc9 300 [0] [] rfl Tryz.call114 rfl rfl rfl (by decide) (by decide) (wrongDir_spec v es hE hl hn _ (rs9 0 rfl hF)) (fun v10 Ps10 hR10=>?_)))))
  obtain ⟨rfl,rfl⟩:=hR10
  refine (G9 rfl rfl (G9 rfl rfl (N9 (X9 ?_))))
  refine W_ret (X_then_ret ?_)
  refine X_nilRow 9900 5 1 ?_
  exact Xq9 [9900] (Ps:=[_]) (res2 Tryz.results77 rfl rfl) rfl (by decide) ⟨_,rfl,by unfold dirR; rw [if_neg h0]; rfl⟩
 ·
  have h0:dirE es=0:=by simpa using hc8
  obtain ⟨h48,h20⟩:=dirE_zero h0
  refine K9 (X9 ?_)
  refine Q9 (R9 (G9 rfl rfl (N9 (X9 (Q9 (Q9 (R9 (G9 rfl rfl (N9 (X9 ?_))))))))))
  refine W_block ?_
  refine W_nilRow 201 5 1 ?_
  refine W_loop (α:=Nat × Value) (fun x=>[(0,v),(4,x.2),(5,.int .i64 (x.1:Int))]) (fun x=>[(0,F),(201,rowB 5 x.2 (dirTo es x.1))]) (fun x=>x.1≤es.length) (fun x=>es.length - x.1) ((0,.slice none 0 0)) (Nat.zero_le _) (a9 rfl) (a9 rfl) (fun x hx=>?_)
  unfold rowB
  have hxl:x.1≤es.length:=hx
  have hdl:=dirTo_len hE h48 x.1
  refine Q9 (Q9 (R9 (M9 rfl rfl (M9 rfl rfl (L9 rfl (Pl9 (r:=0) rfl Tryz.runUnderlying118 rfl rfl hF) (L9 rfl (Pn9 rfl rfl rfl (run_lss _ _ _ _ _ _)) (N9 (X9 ?_))))))))
  refine C9 rfl (fun hc14=>?_) (fun hc14=>?_)
  ·
   have hlt:x.1 < es.length:=by have:=of_decide_eq_true hc14; omega
   have hid:=hE.get hlt
   have hnl:=h48 _ (getD_mem' (d:=ent0) hlt)
   refine K9 (X9 ?_)
   refine Q9 ?_
   refine W_block ?_
   refine W_draw (N:=23) (by kernel_rfl) rfl [(0,_)] ⟨rfl,trivial⟩ ?_
   refine (T9 0 rfl rfl (Pm9 rfl rfl) (T9 1 rfl rfl (Pm9 rfl rfl) (T9 2 rfl rfl (Pm9 rfl rfl) (T9 3 rfl rfl (Pi9 (r:=0) rfl Tryz.runUnderlying118 Tryz.sizeOf122 rfl rfl rfl hF (by omega)) (T9 4 rfl rfl (Pu_fieldAddrE (off:=0) rfl rfl (by kernel_rfl)) (T9 5 rfl rfl (Py9 (r:=0) rfl Tryz.isAgg9 rfl rfl hF (ent_name (k:=x.1) hE hlt)) (T9 6 rfl rfl (Pu_lenStr rfl Tryz.underlying9 rfl) (T9 7 rfl rfl (Pu_conv rfl rfl (conv_byte _ _ Tryz.runUnderlying3 Tryz.runUnderlying5)) (T9 10 rfl rfl (Pm9 rfl rfl) (T9 11 rfl rfl (Pm9 rfl rfl) (T9 12 rfl rfl (Pi9 (r:=0) rfl Tryz.runUnderlying118 Tryz.sizeOf122 rfl rfl rfl hF (by omega)) (T9 13 rfl rfl (Pu_fieldAddrE (off:=0) rfl rfl (by kernel_rfl)) (T9 14 rfl rfl (Py9 (r:=0) rfl Tryz.isAgg9 rfl rfl hF (ent_name (k:=x.1) hE hlt)) (T9 16 rfl rfl (Pm9 rfl rfl) (T9 17 rfl rfl (Pm9 rfl rfl) (T9 18 rfl rfl (Pi9 (r:=0) rfl Tryz.runUnderlying118 Tryz.sizeOf122 rfl rfl rfl hF (by omega)) (T9 19 rfl rfl (Pu_fieldAddrE (off:=1) rfl rfl (by kernel_rfl)) (T9 20 rfl rfl (Pu_sliceArrE rfl Tryz.runUnderlying29 Tryz.sizeOf5 rfl) (Y9 [8] ?_)))))))))))))))))))
   refine Z9 rfl rfl (OpT_buildOnes (r:=202) (bs [byte ((es.getD x.1 ent0).1.length:Int)]) rfl rfl Tryz.runUnderlying36 Tryz.sizeOf5 Tryz.zeroValue5 rfl rfl (by decide) rfl (bs_cells _) (fun v25=>⟨⟨rfl,trivial⟩,?_⟩)) ?_
   ·
    refine (Y9 [9] ?_)
    refine Z9 rfl rfl (Oa9 (r:=201) (r2:=202) rfl Tryz.underlying36 TI.hi5 TI.hz5 TI.hs5 TI.hby5 TI.hzs5 (by decide) rfl rfl rfl rfl (fun _ h=>rp9 h) (bs_one _) (by unfold maxLen; omega) (by omega) (fun v26=>?_)) ?_
    ·
     refine ⟨⟨rfl,trivial⟩,?_⟩
     refine (Y9 [15] ?_)
     refine Z9 rfl rfl (OpT_appendStr (r:=201) rfl Tryz.underlying36 Tryz.underlying9 TI.hi5 TI.hz5 TI.hs5 TI.hby5 TI.hzs5 rfl rfl rfl (by unfold maxLen; omega) (by omega) (fun v32=>?_)) ?_
     ·
      refine ⟨⟨rfl,trivial⟩,?_⟩
      refine (Y9 [21] ?_)
      refine Z9 rfl rfl (Oa9 (r:=201) (r2:=0) rfl Tryz.underlying36 TI.hi5 TI.hz5 TI.hs5 TI.hby5 TI.hzs5 (by decide) rfl rfl rfl rfl (fun h hp=>ent_id (k:=x.1) hE (hF h hp) rfl hlt) (bs_one _) (by unfold maxLen; omega) (by omega) (fun v38=>?_)) ?_
      ·
       refine ⟨⟨rfl,trivial⟩,?_⟩
       refine (T9 22 rfl rfl (Pg9 rfl rfl) (Ad9 (by kernel_rfl) (X_block (X9 ?_))))
       refine R9 (M9 rfl rfl (L9 rfl (Pn9 rfl rfl rfl (run_add _ _ _ _ _ (by omega))) (G9 rfl rfl (N9 ?_))))
       exact Xr9 (x.1 + 1,v38) hlt (by dsimp only; omega) ⟨rfl,rfl,rfl,trivial⟩ ⟨rfl,look_eq rfl (rowB_of (dirTo es (x.1 + 1)) (by rw [dirTo_succ hlt]; simp only [List.length_append,List.length_cons,List.length_nil,hid]) (by rw [dirTo_succ hlt,bs_append,bs_append,bs_append])),trivial⟩
      exact An9
     exact An9
    exact An9
   exact An9
  ·
   obtain hfin:x.1=es.length:=by have:=of_decide_eq_false hc14; omega
   refine W_exit (X_then_exit (X_then_exit (X_block_exit (X9 ?_))))
   refine Q9 (R9 (M9 rfl rfl (G9 rfl rfl (G9 rfl rfl (N9 (X9 ?_))))))
   refine W_ret ?_
   exact Xq9 [201] (Ps:=[_]) (res2 Tryz.results77 rfl rfl) rfl (by decide) ⟨_,by rw [h0] <;> rfl,by unfold dirR; rw [if_pos h0,hfin,dirTo_all]⟩
end Go.Proofs.YthkdkmaacjpneaaGreatDoor
namespace Go.Proofs.YthkdkmaacjpneaaGreatDoor
open Go.RowKit Go.Lib
set_option maxRecDepth 8000

theorem rdB_subE {v:Value} {l l':List UInt8} {h:Hlt} (hr:rdB v l h) {a b:Nat} (hab:a≤b) (hb:b≤l.length) (hl:(l.drop a).take (b - a)=l'):rdB (subV 1 v a b) l' h:=by subst hl; exact rdB_sub hr hab hb
theorem copy_id {nm r:List UInt8} (h:32≤r.length):over (entC nm zeroId) (0 + 1) ((bs r).take (min r.length 32))=entC nm (r.take 32):=by
  have hz:(bs zeroId).length=32:=by rw [bs_length,zeroId_length]
  have ht:((bs r).take (min r.length 32))=bs (r.take 32):=by rw [Nat.min_eq_right h,bs_take]
  have hl:(bs (r.take 32)).length=32:=by rw [bs_length,List.length_take]; omega
  rw [ht]
  have:=over_mid [sV nm] (bs zeroId) (bs (r.take 32)) [] (by rw [hz,hl])
  simpa [entC] using this
theorem ent_load (e:Ent) (h:e.2.length=32):((entC e.1 e.2).drop 0).take 33=entF e:=load_all (entC_length h)
def nb (b:List UInt8):Nat:=(at0 b 0).toNat
theorem nb_lt (b:List UInt8):nb b < 256:=(at0 b 0).toNat_lt
theorem need_nb (b:List UInt8):need b=1 + nb b + 32:=rfl
theorem entOf_name (b:List UInt8):(entOf b).1.length≤256:=by have:=nb_lt b; unfold nb at this; simp [entOf]; omega
def Short (es:List Ent):Prop:=∀ e ∈ es,e.1.length≤256
theorem Short.snoc {es:List Ent} (h:Short es) (b:List UInt8):Short (es++[entOf b]):=fun x hx=>by
  rcases List.mem_append.1 hx with hx | hx
  · exact h x hx
  · simp at hx; subst hx; exact entOf_name b
theorem Short.nil:Short []:=fun x hx=>by cases hx
def ParS (l:List UInt8) (c:Nat) (acc:List Ent):Prop:=c≤l.length∧par (l.drop c) acc=par l []∧Ents acc∧Short acc∧acc.length≤c
theorem ParS.init (l:List UInt8):ParS l 0 []:=⟨Nat.zero_le _,rfl,Ents.nil,Short.nil,Nat.zero_le _⟩
theorem ParS.next {l:List UInt8} {c:Nat} {acc:List Ent} (h:ParS l c acc) {b:List UInt8} (hb:l.drop c=b) (hne:b≠[]) (hn:¬ b.length < need b):ParS l (c + need b) (acc++[entOf b]):=by
  obtain ⟨h1,h2,h3,h4,h5⟩:=h
  have hl:b.length=l.length - c:=by rw [← hb,List.length_drop]
  have hnn:1≤need b:=by unfold need; omega
  refine ⟨by omega,?_,h3.snoc (entOf_id hn),h4.snoc b,by simp; omega⟩
  rw [← h2,hb,par_next hne hn,← hb,List.drop_drop]
theorem ParS.cut {l:List UInt8} {c:Nat} {acc:List Ent} (h:ParS l c acc) {b:List UInt8} (hb:l.drop c=b) (hne:b≠[]) (hn:b.length < need b):par l []=([],8):=by
  rw [← h.2.1,hb,par_cut hne hn]
theorem ParS.done {l:List UInt8} {c:Nat} {acc:List Ent} (h:ParS l c acc) (hb:l.length≤c):par l []=finP acc:=by
  rw [← h.2.1,List.drop_of_length_le hb,par_nil]
theorem finP_bad {acc:List Ent} (h:¬ dirE acc=0):finP acc=([],dirE acc):=by unfold finP; rw [if_pos h]
theorem finP_ok {acc:List Ent} (h:dirE acc=0):finP acc=(acc,0):=by unfold finP; rw [if_neg (fun hc=>hc h)]
theorem parseDir_spec (v:Value) (l:List UInt8) (hl:l.length≤2000000) (F:HP) (hF:∀ h,F h→rdB v l h) (hT:∀ h,F h→tabsP h):CallsS Tryz.prog 82 #[v] F [] (fun r Ps=>∃ v',r = .tuple #[v',.int .i64 ((par l []).2:Int)]∧Ps=[rowE 122 v' (par l []).1]):=by
 refine callsS_enter Tryz.func82 rfl Tryz.ntmps82 (by simp) (fun E=>?_)
 refine Q9 (R9 (G9 rfl rfl (G9 rfl rfl (N9 (X9 (Q9 (R9 (G9 rfl rfl (N9 (X9 (Q9 ?_)))))))))))
 refine W_block ?_
 refine W_nilRow 101 122 33 ?_
 refine W_loop (α:=Nat × Value × Value × List Ent) (fun x=>[(0,x.2.1),(4,x.2.2.1)]) (fun x=>[(0,F),(101,rowE 122 x.2.2.1 x.2.2.2)]) (fun x=>ParS l x.1 x.2.2.2∧∀ h,F h→rdB x.2.1 (l.drop x.1) h) (fun x=>l.length - x.1) ((0,v,.slice none 0 0,[])) ⟨ParS.init l,fun h hp=>by rw [List.drop_zero]; exact hF h hp⟩ (a9 rfl) (a9 rfl) (fun x hx=>?_)
 obtain ⟨hps,hvb⟩:=hx
 have hxl:=hps.1
 have hacc:=hps.2.2.2.2
 unfold rowE rowR
 refine Q9 (Q9 (R9 (M9 rfl rfl (L9 rfl (Pl9 (r:=0) rfl Tryz.runUnderlying36 rfl rfl hvb) (L9 rfl (Pn9 rfl rfl rfl (run_gtr _ _ _ _ _ _)) (N9 (X9 ?_)))))))
 refine C9 rfl (fun hc10=>?_) (fun hc10=>?_)
 ·
  have hlt:x.1 < l.length:=by have h:=of_decide_eq_true hc10; rw [List.length_drop] at h; omega
  obtain ⟨b,hb⟩:∃ b,l.drop x.1=b:=⟨_,rfl⟩
  have hbl:b.length=l.length - x.1:=by rw [← hb,List.length_drop]
  have hbne:b≠[]:=fun hc=>by rw [hc] at hbl; simp at hbl; omega
  have hnb:=nb_lt b
  have hneed:=need_nb b
  rw [hb] at hvb
  rw [hb]
  refine K9 (X9 ?_)
  refine W_block ?_
  refine Q9 (R9 (M9 rfl rfl (L9 rfl (Pu_idxS1 (r:=0) rfl Tryz.runUnderlying36 Tryz.sizeOf5 rfl rfl rfl hvb (by omega)) (L9 rfl (Py9 (r:=0) rfl Tryz.isAgg5 rfl rfl hvb (bs_at1 (k:=0) (by omega))) (L9 rfl (Pu_conv rfl rfl (conv_u8 _ Tryz.runUnderlying5 Tryz.runUnderlying3)) (G9 rfl rfl (N9 (X9 (Q9 (Q9 (R9 (M9 rfl rfl (L9 rfl (Pl9 (r:=0) rfl Tryz.runUnderlying36 rfl rfl hvb) (M9 rfl rfl (L9 rfl (Pn9 rfl rfl rfl (run_add _ _ _ _ _ (by show -9223372036854775808≤1 + (nb b:Int)∧1 + (nb b:Int) < 9223372036854775808; omega))) (L9 rfl (Pn9 rfl rfl rfl (run_add _ _ _ _ _ (by show -9223372036854775808≤1 + (nb b:Int) + 32∧1 + (nb b:Int) + 32 < 9223372036854775808; omega))) (L9 rfl (Pn9 rfl rfl rfl (run_lss _ _ _ _ _ _)) (N9 (X9 ?_)))))))))))))))))))
  refine C9 rfl (fun hc20=>?_) (fun hc20=>?_)
  ·
   have hcut:b.length < need b:=by have h:(b.length:Int) < 1 + (nb b:Int) + 32:=of_decide_eq_true hc20; omega
   have hpc:=hps.cut hb hbne hcut
   refine Q9 (R9 (G9 rfl rfl (G9 rfl rfl (N9 (X9 ?_)))))
   refine W_ret (X_then_ret (X_block_ret (X_then_ret (X_block_ret (X_then_ret ?_)))))
   refine X_nilRow 9900 122 33 ?_
   exact Xq9 [9900] (Ps:=[_]) (res2 Tryz.results82 rfl rfl) rfl (by decide) ⟨_,by rw [hpc] <;> rfl,by rw [hpc] <;> rfl⟩
  ·
   have hno:¬ b.length < need b:=by have h:¬ (b.length:Int) < 1 + (nb b:Int) + 32:=of_decide_eq_false hc20; omega
   have hid:=entOf_id hno
   refine K9 (X9 ?_)
   refine Q9 (R9 (M9 rfl rfl (M9 rfl rfl (L9 rfl (Pn9 rfl rfl rfl (run_add _ _ _ _ _ (by show -9223372036854775808≤1 + (nb b:Int)∧1 + (nb b:Int) < 9223372036854775808; omega))) (L9 rfl (Pu_slice (r:=0) (a:=1) (b:=1 + nb b) rfl Tryz.runUnderlying36 Tryz.sizeOf5 rfl rfl hvb (.inr ⟨_,_,_,rfl,rfl,rfl⟩) (.inr ⟨_,_,_,rfl,rfl,(by show 1 + (nb b:Int)=_; omega)⟩) (by omega) (by omega)) (L9 rfl (Pu_convBS (r:=0) rfl Tryz.underlying36 Tryz.underlying5 Tryz.underlying9 rfl rfl (fun h hp=>rdB_subE (hvb h hp) (by omega) (by omega) (by rw [Nat.add_sub_cancel_left]; rfl))) (L9 rfl (Pu_build (V:=.agg (entC (entOf b).1 zeroId).toArray) [(0,1),(1,32)] (entC [] zeroId) rfl rfl (by kernel_rfl) (by kernel_rfl) (.one rfl rfl (by simp [entC,bs_length,zeroId_length]) rfl (.nil _)) rfl) (Lc9 rfl rfl (by decide) (OpT_alloc (r:=102) rfl (zero_run (by kernel_rfl:(Tryz.prog.info? 122).bind (·.zero)=some (.agg (entC [] zeroId).toArray))) rfl (fun g102=>(Lc09 rfl rfl (OpT_storeAll (r:=102) rfl Tryz.sizeOf122 rfl rfl rfl rfl (entC_length zeroId_length) (entC_one _ _) ?_))))))))))))
   refine (N9 (X9 ?_))
   refine Q9 ?_
   refine W_draw (N:=7) (by kernel_rfl) rfl [(0,_)] ⟨rfl,trivial⟩ ?_
   refine (T9 0 rfl rfl (F9 1 rfl rfl) (T9 1 rfl rfl (Pu_sliceArr rfl Tryz.runUnderlying29 Tryz.sizeOf5 rfl) (T9 2 rfl rfl (Pm9 rfl rfl) (T9 3 rfl rfl (Pm9 rfl rfl) (T9 4 rfl rfl (Pn9 rfl rfl rfl (run_add _ _ _ _ _ (by show -9223372036854775808≤1 + (nb b:Int)∧1 + (nb b:Int) < 9223372036854775808; omega))) (T9 5 rfl rfl (Pu_slice (r:=0) (a:=1 + nb b) (b:=b.length) rfl Tryz.runUnderlying36 Tryz.sizeOf5 rfl rfl hvb (.inr ⟨_,_,_,rfl,rfl,(by show 1 + (nb b:Int)=_; omega)⟩) (.inl ⟨rfl,rfl⟩) (by omega) (Nat.le_refl _)) (Y9 [6] ?_)))))))
   refine Z9 rfl rfl (OpT_copyB (r:=102) (r2:=0) rfl Tryz.underlying36 TI.hsm5 rfl rfl rfl rfl (fun h hp=>rdB_tail (hvb h hp) (by omega)) (bs_one _) (by rw [entC_length zeroId_length]; omega) (copy_id (by rw [List.length_drop]; omega)) ?_) ?_
   ·
    refine ⟨⟨rfl,trivial⟩,?_⟩
    refine (Ad9 (by kernel_rfl) (X9 ?_))
    refine Q9 (R9 (M9 rfl rfl (L9 rfl (Px9 (r:=102) rfl Tryz.isAgg122 Tryz.sizeOf122 rfl rfl (entC_length hid) (ent_load (entOf b) hid)) (Lc9 rfl rfl (by decide) (OpT_buildRows (r:=103) [entF (entOf b)] rfl rfl Tryz.runUnderlying118 Tryz.sizeOf122 Tryz.zeroValue122 rfl (by decide) rfl (by decide) (by intro r hr; simp at hr; rw [hr]; exact entC_length hid) rfl (fun v36=>(Lc9 rfl rfl (by decide) (Oa9 (r:=101) (r2:=103) rfl Tryz.underlying118 TI.hi122 TI.hz122 TI.hs122 TI.hby122 TI.hzs122 (by decide) rfl rfl rfl rfl (fun _ h=>rp9 h) (by rw [List.flatten_cons,List.flatten_nil,List.append_nil]; exact entC_one _ _) (by unfold maxLen; omega) (by omega) (fun v37=>?_)))))))))
    refine (G9 rfl rfl (N9 (X9 ?_)))
    refine R9 (M9 rfl rfl (M9 rfl rfl (L9 rfl (Pn9 rfl rfl rfl (run_add _ _ _ _ _ (by show -9223372036854775808≤1 + (nb b:Int)∧1 + (nb b:Int) < 9223372036854775808; omega))) (L9 rfl (Pn9 rfl rfl rfl (run_add _ _ _ _ _ (by show -9223372036854775808≤1 + (nb b:Int) + 32∧1 + (nb b:Int) + 32 < 9223372036854775808; omega))) (L9 rfl (Pu_slice (r:=0) (a:=1 + nb b + 32) (b:=b.length) rfl Tryz.runUnderlying36 Tryz.sizeOf5 rfl rfl hvb (.inr ⟨_,_,_,rfl,rfl,(by show 1 + (nb b:Int) + 32=_; omega)⟩) (.inl ⟨rfl,rfl⟩) (by omega) (Nat.le_refl _)) (G9 rfl rfl (N9 (X_block ?_))))))))
    exact Xr9 (x.1 + need b,subV 1 x.2.1 (1 + nb b + 32) b.length,v37,x.2.2.2++[entOf b]) ⟨hps.next hb hbne hno,fun h hp=>by rw [← List.drop_drop,hb]; exact rdB_tail (hvb h hp) (by omega)⟩ (by dsimp only; omega) ⟨rfl,rfl,trivial⟩ ⟨rfl,look_eq rfl (rowR_of (x.2.2.2++[entOf b]) (by simp) (by rw [recC_append,recC_one,List.flatten_cons,List.flatten_nil,List.append_nil])),trivial⟩
   exact An9
 ·
  have hge:l.length≤x.1:=by have h:=of_decide_eq_false hc10; rw [List.length_drop] at h; omega
  have hdone:=hps.done hge
  refine W_exit (X_then_exit (X_then_exit (X_block_exit (X9 ?_))))
  refine Q9 (Q9 (R9 (M9 rfl rfl (Lc9 rfl rfl (by decide) (Oc9 200 [0,101] [] rfl Tryz.call98 rfl rfl rfl (by decide) (by decide) (bad_spec x.2.2.1 x.2.2.2 hps.2.2.1 (by omega) (fun e he=>by have:=hps.2.2.2.1 e he; omega) _ (rs9 1 rfl rowR_rd) (ts9 0 rfl hT)) (fun v44 Ps44 hR44=>?_))))))
  obtain ⟨rfl,rfl⟩:=hR44
  refine (G9 rfl rfl (N9 (X9 ?_)))
  refine Q9 (R9 (M9 rfl rfl (L9 rfl (Pn9 rfl rfl rfl (run_neq _ _ _ _ _ _)) (N9 (X9 ?_)))))
  refine C9 rfl (fun hc46=>?_) (fun hc46=>?_)
  ·
   have h0:¬ dirE x.2.2.2=0:=by simpa using hc46
   rw [finP_bad h0] at hdone
   refine Q9 (R9 (M9 rfl rfl (G9 rfl rfl (G9 rfl rfl (N9 (X9 ?_))))))
   refine W_ret (X_then_ret ?_)
   refine X_nilRow 9900 122 33 ?_
   exact Xq9 [9900] (Ps:=[_]) (res2 Tryz.results82 rfl rfl) rfl (by decide) ⟨_,by rw [hdone] <;> rfl,by rw [hdone] <;> rfl⟩
  ·
   have h0:dirE x.2.2.2=0:=by simpa using hc46
   rw [finP_ok h0] at hdone
   refine K9 (X9 ?_)
   refine Q9 (R9 (M9 rfl rfl (G9 rfl rfl (G9 rfl rfl (N9 (X9 ?_))))))
   refine W_ret ?_
   exact Xq9 [101] (Ps:=[_]) (res2 Tryz.results82 rfl rfl) rfl (by decide) ⟨_,by rw [hdone] <;> rfl,by rw [hdone]⟩
end Go.Proofs.YthkdkmaacjpneaaGreatDoor
namespace Go.Proofs.YthkdkmaacjpneaaGreatDoor
open Go.RowKit Go.Lib
set_option maxRecDepth 8000
theorem strB_beq (a b:List UInt8):(strB a == strB b)=(a == b):=by
  show ((strB a).data == (strB b).data)=_
  simp [strB]
theorem dirR_len {es:List Ent} (hE:Ents es):(dirR es).length≤2000:=by
  unfold dirR
  split
  · rename_i h
    obtain ⟨h1,h2⟩:=dirE_zero h
    have:=dirTo_len hE h1 es.length
    rw [dirTo_all] at this
    omega
  · simp
end Go.Proofs.YthkdkmaacjpneaaGreatDoor
namespace Go.Proofs.YthkdkmaacjpneaaGreatDoor
open Go.RowKit Go.Lib
theorem prefix_spec (l p:List UInt8) (F:HP):CallsS Tryz.prog 60 #[sV l,sV p] F [] (fun v Ps=>v = .bool (p.isPrefixOf l)∧Ps=[]) :=
  callsS_same fun w=>by
    have:=Any.strings_HasPrefix lays99 (strB l) (strB p) w
    rw [strB_dataL,strB_dataL] at this
    exact this
theorem suffix_spec (l p:List UInt8) (hl:l.length≤9223372036854775807) (F:HP):CallsS Tryz.prog 61 #[sV l,sV p] F [] (fun v Ps=>v = .bool (p.isSuffixOf l)∧Ps=[]) :=
  callsS_same fun w=>by
    have:=Any.strings_HasSuffix lays100 (strB l) (strB p) w (by rw [strB_size]; exact hl)
    rw [strB_dataL,strB_dataL] at this
    exact this
theorem splitK_miss (k:Nat) (s:List UInt8) (h:index s [47] = -1):splitK [47] 0 k s=[s]:=by
  cases k with
  | zero=>rfl
  | succ k=>simp [splitK,h]
theorem splitK_hit (k i:Nat) (s:List UInt8) (h:index s [47]=(i:Int)):splitK [47] 0 (k + 1) s=s.take i::splitK [47] 0 k (s.drop (i + 1)):=by
  have:¬ (index s [47] == -1)=true:=fun e=>by have:=beq_iff_eq.1 e; omega
  simp only [splitK]
  rw [if_neg this,h]
  simp
theorem splitL_lib (s:List UInt8):splitK [47] 0 (count s [47]) s=splitL s:=by
  induction s with
  | nil=>simp [splitL]; exact splitK_miss _ _ (by simp [index])
  | cons b l ih =>
    by_cases hb:b=47
    · subst hb
      have h0:index (47::l) [47]=((0:Nat):Int):=by simp [index]
      rw [count_hit (by simp) h0,Nat.add_comm,splitK_hit _ 0 _ h0]
      simp [splitL,ih]
    · have hp:([47]:List UInt8).isPrefixOf (b::l)=false:=by simp [List.isPrefixOf]; exact fun h=>hb h.symm
      rcases index_spec l [47] with ⟨hm,_⟩ | ⟨i,hi,_⟩
      · have h1:index (b::l) [47] = -1:=by simp [index,hp,hm]
        rw [splitK_miss _ _ h1]
        rw [splitK_miss _ _ hm] at ih
        simp [splitL,hb,← ih]
      · have h1:index (b::l) [47]=((i + 1:Nat):Int):=by
          unfold index
          rw [if_neg (by simp [hp]),if_neg (by rw [hi]; simp),hi]
          simp
        rw [count_hit (by simp) h1,Nat.add_comm,splitK_hit _ _ _ h1]
        rw [count_hit (by simp) hi,Nat.add_comm,splitK_hit _ _ _ hi] at ih
        have hd:(b::l).drop (i + 1 + ([47]:List UInt8).length)=l.drop (i + ([47]:List UInt8).length):=by
          rw [show i + 1 + ([47]:List UInt8).length=(i + ([47]:List UInt8).length) + 1 by omega,List.drop_succ_cons]
        rw [hd]
        simp only [splitL,if_neg hb,← ih]
        simp
theorem split_spec (l:List UInt8) (hl:l.length < 4294967281) (F:HP) (hF:∀ h,F h→tabsP h):CallsS Tryz.prog 62 #[sV l,sV [47]] F [] (fun v Ps=>Ps=[rowS 9 v (splitL l)]):=fun E w hS=>by
  have hr:look (En 0 [F]) 0=some F:=rfl
  obtain ⟨h,hp,hi⟩:=hS.read hr
  obtain ⟨_,m,hm⟩:=hF h hp w hi
  have hpieces:((splitB (strB [47]) 0 (countB (strB l) (strB [47])) (strB l)).map Value.string)=ss (splitL l):=by
    have h1:=splitB_data (strB [47]) 0 (countB (strB l) (strB [47])) (strB l)
    have hc:countB (strB l) (strB [47])=count l [47]:=by unfold countB; rw [strB_dataL,strB_dataL]
    rw [strB_dataL,strB_dataL,hc,splitL_lib] at h1
    rw [hc]
    unfold ss
    rw [← h1,List.map_map]
    apply List.map_congr_left
    intro x _
    simp only [Function.comp,sV]
    rw [← strB_data]
  have hlen:countB (strB l) (strB [47]) + 1=(splitL l).length:=by
    have:=congrArg List.length hpieces
    rw [List.length_map,ss_length] at this
    rw [← this]
    exact (splitB_all (strB [47]) (by rw [strB_size]; simp) 0 _ (strB l) rfl).symm
  refine (Any.strings_Split lays146 (by kernel_rfl) (strB l) (strB [47]) m w (by rw [strB_size]; exact hl) hm (by rw [strB_size]; simp)).mono fun e w' ⟨he,hw⟩=>?_
  rw [hpieces] at hw
  rw [hlen] at he
  subst hw
  refine ⟨_,_,he,rfl,?_⟩
  have hsl:=splitL_len l
  have hown:(w.alloc (.cells (ss (splitL l)).toArray (ren.t 9))).ownsRow 0 9 1 (.slice (some ⟨w.heap.size,0,none⟩) (splitL l).length (splitL l).length) (splitL l).length (ss (splitL l)) :=
    ⟨by rw [ss_length,Nat.mul_one],.inr ⟨w.heap.size,_,_,rfl,Nat.zero_le _,heap_alloc_new w _,Nat.le_refl _,by unfold maxLen; omega,by rw [List.size_toArray,ss_length,Nat.mul_one],by rw [List.toList_toArray,Nat.mul_one]; exact List.take_of_length_le (by rw [ss_length]; exact Nat.le_refl _)⟩⟩
  obtain ⟨h',c1,c2,c3⟩:=rowP_of_own hown
  have hch:Chg [] w (w.alloc (.cells (ss (splitL l)).toArray (ren.t 9))):=⟨rfl,rfl,rfl,by simp,fun k hk _=>heap_alloc_old w _ hk⟩
  refine hS.new 1 hch h' c1 c2 (fun g hg=>?_) |>.sub ?_
  · have:=c3 g hg
    simp [Value.ownBlock] at this
    omega
  · intro r P h
    simp only [En] at h
    by_cases h0:0=r
    · subst h0; rw [look_same] at h; rw [look_other (by omega)]; exact h
    · rw [look_other h0] at h
      by_cases h1:1=r
      · subst h1; rw [look_same] at h ⊢; exact h
      · rw [look_other h1] at h; cases h
end Go.Proofs.YthkdkmaacjpneaaGreatDoor
namespace Go.Proofs.YthkdkmaacjpneaaGreatDoor
open Go.RowKit Go.Lib
set_option maxRecDepth 8000

theorem all_spec (v:Value) (ls:List (List UInt8)) (hlen:∀ x ∈ ls,x.length≤140737488355328) (F:HP) (hF:∀ h,F h→rdS v ls h) (hT:∀ h,F h→tabsP h):CallsS Tryz.prog 63 #[v] F [] (fun r Ps=>r = .int .i64 (allN ls:Int)∧Ps=[]):=by
 refine callsS_enter Tryz.func63 rfl Tryz.ntmps63 (by simp) (fun E=>?_)
 refine Q9 (R9 (G9 rfl rfl (N9 (X9 (Q9 (Q9 (R9 (M9 rfl rfl (L9 rfl (Pl9 (r:=0) rfl Tryz.runUnderlying63 rfl rfl hF) (L9 rfl (Pn9 rfl rfl rfl (run_gtr _ _ _ _ _ _)) (N9 (X9 ?_))))))))))))
 refine C9 rfl (fun hc8=>?_) (fun hc8=>?_)
 ·
  have h5:=of_decide_eq_true hc8
  refine Q9 (R9 (G9 rfl rfl (N9 (X9 ?_))))
  refine W_ret (X_then_ret ?_)
  exact Xq9 [] (Ps:=[]) (res1 Tryz.results63 rfl) rfl (by decide) ⟨by unfold allN; rw [if_pos (by omega)]; rfl,rfl⟩
 ·
  have h5:=of_decide_eq_false hc8
  refine K9 (X9 ?_)
  refine Q9 (Q9 (R9 (M9 rfl rfl (L9 rfl (Pl9 (r:=0) rfl Tryz.runUnderlying63 rfl rfl hF) (M9 rfl rfl (N9 (X9 ?_)))))))
  refine W_block ?_
  refine W_loop (α:=Nat) (fun i=>[(9,v),(10,.int .i64 (ls.length:Int)),(11,.int .i64 (i:Int))]) (fun i=>[(0,F)]) (fun i=>i≤ls.length∧firstBad (ls.drop i)=firstBad ls) (fun i=>ls.length - i) (0) ⟨Nat.zero_le _,rfl⟩ (a9 rfl) ⟨rfl,trivial⟩ (fun x hx=>?_)
  obtain ⟨hxl,hfb⟩:=hx
  refine Q9 (R9 (L9 rfl (Pn9 rfl rfl rfl (run_lss _ _ _ _ _ _)) (N9 (X9 (Q9 ?_)))))
  refine C9 rfl (fun hc12=>?_) (fun hc12=>?_)
  ·
   have hlt:x < ls.length:=by have:=of_decide_eq_true hc12; omega
   refine K9 (X9 ?_)
   refine Q9 ?_
   refine W_block ?_
   refine Q9 (R9 (L9 rfl (Pu_idxS1 (r:=0) rfl Tryz.runUnderlying63 Tryz.sizeOf9 rfl rfl rfl hF (by omega)) (L9 rfl (Py9 (r:=0) rfl Tryz.isAgg9 rfl rfl hF (ss_at hlt)) (G9 rfl rfl (N9 (X9 (Q9 (R9 (M9 rfl rfl (Lc9 rfl rfl (by decide) (Oc9 200 [0] [] rfl Tryz.call90 rfl rfl rfl (by decide) (by decide) (check_spec (ls.getD x []) (hlen _ (getD_mem hlt)) _ (ts9 0 rfl hT)) (fun v16 Ps16 hR16=>?_))))))))))))
   obtain ⟨rfl,rfl⟩:=hR16
   refine (G9 rfl rfl (N9 (X9 ?_)))
   refine Q9 (R9 (M9 rfl rfl (L9 rfl (Pn9 rfl rfl rfl (run_neq _ _ _ _ _ _)) (N9 (X9 ?_)))))
   refine C9 rfl (fun hc18=>?_) (fun hc18=>?_)
   ·
    have hbad:¬ (checkN (ls.getD x []):Int)=0:=by simpa using hc18
    refine Q9 (R9 (M9 rfl rfl (G9 rfl rfl (N9 (X9 ?_)))))
    refine W_ret (X_block_ret (X_then_ret (X_then_ret (X_block_ret (X_then_ret ?_)))))
    exact Xq9 [] (Ps:=[]) (res1 Tryz.results63 rfl) rfl (by decide) ⟨by unfold allN; rw [if_neg (by omega),← hfb,firstBad_bad hlt hbad],rfl⟩
   ·
    have hgood:(checkN (ls.getD x []):Int)=0:=by simpa using hc18
    refine K9 (X_block (X9 ?_))
    refine R9 (L9 rfl (Pn9 rfl rfl rfl (run_add _ _ _ _ _ (by omega))) (M9 rfl rfl (N9 ?_)))
    exact Xr9 (x + 1) ⟨hlt,by rw [← hfb,firstBad_good hlt hgood]⟩ (by omega) (a9 rfl) ⟨rfl,trivial⟩
  ·
   have hge:ls.length≤x:=by have:=of_decide_eq_false hc12; omega
   refine W_exit (X_then_exit (X_then_exit (X_block_exit (X9 ?_))))
   refine Q9 (R9 (G9 rfl rfl (N9 (X9 ?_))))
   refine W_ret ?_
   exact Xq9 [] (Ps:=[]) (res1 Tryz.results63 rfl) rfl (by decide) ⟨by unfold allN; rw [if_neg (by omega),← hfb,firstBad_end hge]; rfl,rfl⟩
theorem split_nspec (l:List UInt8) (hl:l.length < 4294967281) (F:HP) (hT:∀ h,F h→tabsP h):CallsS Tryz.prog 36 #[sV l] F [] (fun r Ps=>∃ v,r = .tuple #[v,.int .i64 ((splitN l).2:Int)]∧Ps=[rowS 9 v (splitN l).1]):=by
 refine callsS_enter Tryz.func36 rfl Tryz.ntmps36 (by simp) (fun E=>?_)
 refine Q9 (R9 (G9 rfl rfl (G9 rfl rfl (N9 (X9 (Q9 (Q9 (R9 (M9 rfl rfl (L9 rfl (Pn9 rfl rfl rfl (run_strEq _ _ _ _ _)) (N9 (X9 ?_))))))))))))
 refine C9 rfl (fun hc7=>?_) (fun hc7=>?_)
 ·
  have h1:l=[47]:=by simpa using hc7
  refine Q9 (R9 (G9 rfl rfl (G9 rfl rfl (N9 (X9 ?_)))))
  refine W_ret (X_then_ret ?_)
  have hs:splitN l=([],0):=by unfold splitN; rw [if_pos h1]
  refine X_nilRow 9900 9 1 ?_
  exact Xq9 [9900] (Ps:=[_]) (res2 Tryz.results36 rfl rfl) rfl (by decide) ⟨_,by rw [hs] <;> rfl,by rw [hs] <;> rfl⟩
 ·
  have h1:¬ l=[47]:=by simpa using hc7
  refine K9 (X9 ?_)
  refine Q9 (Q9 ?_)
  rcases Bool.eq_false_or_eq_true ((!([47]:List UInt8).isPrefixOf l)) with hsp3 | hsp3
  ·
   have hnp:noPath l=true:=by unfold noPath; rw [hsp3]; rfl
   refine R9 (M9 rfl rfl (Lc9 rfl rfl (by decide) (Oc9 200 [0] [] rfl Tryz.call60 rfl rfl rfl (by decide) (by decide) (prefix_spec l [47] _) (fun v9 Ps9 hR9=>?_))))
   obtain ⟨rfl,rfl⟩:=hR9
   refine (L9 rfl (Pu_un rfl rfl (run_not _)) (M9 rfl rfl (WL_gF rfl rfl rfl (by rw [hsp3]; rfl) rfl (by decide) (WL_gF rfl rfl rfl (by rw [hsp3]; rfl) rfl (by decide) (L9 rfl (Pu_pickT rfl rfl hsp3 rfl) (N9 (X9 ?_)))))))
   refine W_true rfl (rfl) ?_
   refine Q9 (R9 (G9 rfl rfl (G9 rfl rfl (N9 (X9 ?_)))))
   refine W_ret (X_then_ret ?_)
   have hs:splitN l=([],10):=by unfold splitN; rw [if_neg h1,if_pos hnp]
   refine X_nilRow 9900 9 1 ?_
   exact Xq9 [9900] (Ps:=[_]) (res2 Tryz.results36 rfl rfl) rfl (by decide) ⟨_,by rw [hs] <;> rfl,by rw [hs] <;> rfl⟩
  ·
   have hnq:noPath l=([47]:List UInt8).isSuffixOf l:=by unfold noPath; rw [hsp3]; rfl
   refine R9 (M9 rfl rfl (Lc9 rfl rfl (by decide) (Oc9 200 [0] [] rfl Tryz.call60 rfl rfl rfl (by decide) (by decide) (prefix_spec l [47] _) (fun v9 Ps9 hR9=>?_))))
   obtain ⟨rfl,rfl⟩:=hR9
   refine (L9 rfl (Pu_un rfl rfl (run_not _)) (M9 rfl rfl (WL_gPT rfl rfl rfl (by rw [hsp3]; rfl) rfl (by decide) (Pm9 rfl rfl) (WL_gT rfl rfl rfl (by rw [hsp3]; rfl) rfl (by decide) (Oc9 300 [0] [] rfl Tryz.call61 rfl rfl rfl (by decide) (by decide) (suffix_spec l [47] (by omega) _) (fun v13 Ps13 hR13=>?_))))))
   obtain ⟨rfl,rfl⟩:=hR13
   refine (L9 rfl (Pu_pickF rfl rfl hsp3 rfl) (N9 (X9 ?_)))
   refine C9 rfl (fun hc14=>?_) (fun hc14=>?_)
   ·
    have hnp:noPath l=true:=hnq.trans hc14
    refine Q9 (R9 (G9 rfl rfl (G9 rfl rfl (N9 (X9 ?_)))))
    refine W_ret (X_then_ret ?_)
    have hs:splitN l=([],10):=by unfold splitN; rw [if_neg h1,if_pos hnp]
    refine X_nilRow 9900 9 1 ?_
    exact Xq9 [9900] (Ps:=[_]) (res2 Tryz.results36 rfl rfl) rfl (by decide) ⟨_,by rw [hs] <;> rfl,by rw [hs] <;> rfl⟩
   ·
    have hnp:noPath l=false:=hnq.trans hc14
    refine K9 (X9 ?_)
    refine Q9 ?_
    have hpos:1≤l.length:=by rcases l with _ | ⟨c,l⟩; exact absurd hnp (by simp [noPath_nil]); simp
    refine R9 (M9 rfl rfl (L9 rfl (Pu_sliceStrE (a:=1) rfl Tryz.underlying9 rfl (.inr ⟨_,_,_,rfl,rfl,rfl⟩) (.inl ⟨rfl,rfl⟩) (by omega) (Nat.le_refl _) (take_rest _ _)) (Lc9 rfl rfl (by decide) (Oc9 400 [0] [] rfl Tryz.call62 rfl rfl rfl (by decide) (by decide) (split_spec (l.drop 1) (by simp; omega) _ (ts9 0 rfl hT)) (fun v17 Ps17 hR17=>?_)))))
    subst hR17
    refine (G9 rfl rfl (N9 (X9 ?_)))
    refine Q9 (Q9 (R9 (M9 rfl rfl (Lc9 rfl rfl (by decide) (Oc9 500 [0,400] [] rfl Tryz.call63 rfl rfl rfl (by decide) (by decide) (all_spec v17 (splitL (l.drop 1)) (fun x hx=>by have:=splitL_mem hx; simp at this; omega) _ (rs9 1 rfl rowS_rd) (ts9 0 rfl hT)) (fun v19 Ps19 hR19=>?_))))))
    obtain ⟨rfl,rfl⟩:=hR19
    refine (G9 rfl rfl (N9 (X9 ?_)))
    refine Q9 (R9 (M9 rfl rfl (L9 rfl (Pn9 rfl rfl rfl (run_neq _ _ _ _ _ _)) (N9 (X9 ?_)))))
    refine C9 rfl (fun hc21=>?_) (fun hc21=>?_)
    ·
     have h3:¬ allN (splitL (l.drop 1))=0:=by simpa using hc21
     refine Q9 (R9 (M9 rfl rfl (G9 rfl rfl (G9 rfl rfl (N9 (X9 ?_))))))
     refine W_ret (X_then_ret ?_)
     have hs:splitN l=([],allN (splitL (l.drop 1))):=by unfold splitN; rw [if_neg h1,if_neg (by simp [hnp]),if_pos h3]
     refine X_nilRow 9900 9 1 ?_
     exact Xq9 [9900] (Ps:=[_]) (res2 Tryz.results36 rfl rfl) rfl (by decide) ⟨_,by rw [hs] <;> rfl,by rw [hs] <;> rfl⟩
    ·
     have h3:allN (splitL (l.drop 1))=0:=by simpa using hc21
     refine K9 (X9 ?_)
     refine Q9 (R9 (M9 rfl rfl (G9 rfl rfl (G9 rfl rfl (N9 (X9 ?_))))))
     refine W_ret ?_
     have hs:splitN l=(splitL (l.drop 1),0):=by unfold splitN; rw [if_neg h1,if_neg (by simp [hnp]),if_neg (fun hc=>hc h3)]
     exact Xq9 [400] (Ps:=[_]) (res2 Tryz.results36 rfl rfl) rfl (by decide) ⟨_,by rw [hs] <;> rfl,by rw [hs]⟩
end Go.Proofs.YthkdkmaacjpneaaGreatDoor
namespace Go.Proofs.YthkdkmaacjpneaaGreatDoor
open Go.RowKit Go.Lib
set_option maxRecDepth 8000

theorem dec47 (x:UInt8):decide (((x.toNat:Nat):Int)=47)=(x == 47):=by
  apply Bool.eq_iff_iff.2
  simp only [decide_eq_true_eq,beq_iff_eq]
  constructor
  · intro h
    have:x.toNat=47:=by omega
    exact UInt8.toNat_inj.1 this
  · intro h; subst h; rfl
def RS (l:List UInt8) (i at':Nat) (acc:List (List UInt8)):Prop :=
  ((i≤l.length∧at'≤i∧1≤at'∧acc++splitG ((l.drop at').take (i - at')) (l.drop i)=splitL (l.drop 1))∨(i=l.length + 1∧acc=splitL (l.drop 1)))∧acc.length≤i∧i≤l.length + 1
theorem RS_init {l:List UInt8} (h:1≤l.length):RS l 1 1 []:=⟨.inl ⟨h,Nat.le_refl _,Nat.le_refl _,by simp [splitG_nil]⟩,by simp,by omega⟩
theorem RS_cut {l:List UInt8} {i a:Nat} {acc:List (List UInt8)} (h:RS l i a acc) (hi:i≤l.length) (hc:(decide ((i:Int)=(l.length:Int)) || decide (((at0 l i).toNat:Int)=47))=true):RS l (i + 1) (i + 1) (acc++[(l.drop a).take (i - a)]):=by
  obtain ⟨h1,h2,_⟩:=h
  rcases h1 with ⟨_,ha,h1a,h3⟩ | ⟨h1,_⟩
  · refine ⟨?_,by simp; omega,by omega⟩
    rcases Nat.lt_or_ge i l.length with hlt | hge
    · rw [dec47] at hc
      simp only [Bool.or_eq_true,decide_eq_true_eq,beq_iff_eq] at hc
      have hc':at0 l i=47:=hc.resolve_left (by omega)
      refine .inl ⟨by omega,Nat.le_refl _,by omega,?_⟩
      rw [← h3,splitG_stroke hlt hc']
      simp
    · refine .inr ⟨by omega,?_⟩
      rw [← h3,splitG_end hge]
  · omega
theorem RS_go {l:List UInt8} {i a:Nat} {acc:List (List UInt8)} (h:RS l i a acc) (hi:i≤l.length) (hc:(decide ((i:Int)=(l.length:Int)) || decide (((at0 l i).toNat:Int)=47))=false):RS l (i + 1) a acc:=by
  obtain ⟨h1,h2,_⟩:=h
  rw [dec47] at hc
  simp only [Bool.or_eq_false_iff,decide_eq_false_iff_not,beq_eq_false_iff_ne,ne_eq] at hc
  have hlt:i < l.length:=by omega
  rcases h1 with ⟨_,ha,h1a,h3⟩ | ⟨h1,_⟩
  · refine ⟨.inl ⟨by omega,by omega,h1a,?_⟩,by omega,by omega⟩
    rw [← h3,splitG_more hlt hc.2,take_more ha hlt]
  · omega
theorem RS_end {l:List UInt8} {i a:Nat} {acc:List (List UInt8)} (h:RS l i a acc) (hi:¬ i≤l.length):acc=splitL (l.drop 1):=by
  obtain ⟨h1,h2,_⟩:=h
  rcases h1 with ⟨h,_⟩ | ⟨_,h⟩
  · omega
  · exact h
theorem RS_at {l:List UInt8} {i a:Nat} {acc:List (List UInt8)} (h:RS l i a acc) (hi:i≤l.length):a≤i:=by
  obtain ⟨h1,h2,_⟩:=h
  rcases h1 with ⟨_,h,_⟩ | ⟨h,_⟩ <;> omega
theorem noPath_ref {l:List UInt8} (h:0 < l.length):((!decide (((at0 l 0).toNat:Int)=47)) || decide (((at0 l (l.length - 1)).toNat:Int)=47))=noPath l:=by
  rw [noPath_eq h,dec47,dec47]
theorem split_rspec (l:List UInt8) (hl:l.length < 4294967281) (F:HP):CallsS Tryz.prog 33 #[sV l] F [] (fun r Ps=>∃ v,r = .tuple #[v,.int .i64 ((splitN l).2:Int)]∧Ps=[rowS 9 v (splitN l).1]):=by
 refine callsS_enter Tryz.func33 rfl Tryz.ntmps33 (by simp) (fun E=>?_)
 refine Q9 (R9 (G9 rfl rfl (G9 rfl rfl (N9 (X9 (Q9 (Q9 (R9 (M9 rfl rfl (L9 rfl (Pn9 rfl rfl rfl (run_strEq _ _ _ _ _)) (N9 (X9 ?_))))))))))))
 refine C9 rfl (fun hc9=>?_) (fun hc9=>?_)
 ·
  have h1:l=[47]:=by simpa using hc9
  refine Q9 (R9 (G9 rfl rfl (G9 rfl rfl (N9 (X9 ?_)))))
  refine W_ret (X_then_ret ?_)
  have hs:splitN l=([],0):=by unfold splitN; rw [if_pos h1]
  refine X_nilRow 9900 9 1 ?_
  exact Xq9 [9900] (Ps:=[_]) (res2 Tryz.results33 rfl rfl) rfl (by decide) ⟨_,by rw [hs] <;> rfl,by rw [hs] <;> rfl⟩
 ·
  have h1:¬ l=[47]:=by simpa using hc9
  refine K9 (X9 ?_)
  refine Q9 (Q9 ?_)
  rcases Bool.eq_false_or_eq_true (decide ((l.length:Int)=0)) with hsp3 | hsp3
  ·
   have hnp:noPath l=true:=by have:=of_decide_eq_true hsp3; rw [List.eq_nil_of_length_eq_zero (by omega:l.length=0)]; rfl
   refine R9 (M9 rfl rfl (L9 rfl (Pu_lenStr rfl Tryz.underlying9 rfl) (L9 rfl (Pn9 rfl rfl rfl (run_eql _ _ _ _ _ _)) (M9 rfl rfl (WL_gF rfl rfl rfl (by rw [hsp3]; rfl) rfl (by decide) (WL_gF rfl rfl rfl (by rw [hsp3]; rfl) rfl (by decide) (WL_gF rfl rfl rfl (by rw [hsp3]; rfl) rfl (by decide) (L9 rfl (Pu_pickT rfl rfl hsp3 rfl) (M9 rfl rfl (WL_gF rfl rfl rfl rfl rfl (by decide) (WL_gF rfl rfl rfl rfl rfl (by decide) (WL_gF rfl rfl rfl rfl rfl (by decide) (WL_gF rfl rfl rfl rfl rfl (by decide) (WL_gF rfl rfl rfl rfl rfl (by decide) (WL_gF rfl rfl rfl rfl rfl (by decide) (L9 rfl (Pu_pickT rfl rfl rfl rfl) (N9 (X9 ?_))))))))))))))))))
   refine W_true rfl (rfl) ?_
   refine Q9 (R9 (G9 rfl rfl (G9 rfl rfl (N9 (X9 ?_)))))
   refine W_ret (X_then_ret ?_)
   have hs:splitN l=([],10):=by unfold splitN; rw [if_neg h1,if_pos hnp]
   refine X_nilRow 9900 9 1 ?_
   exact Xq9 [9900] (Ps:=[_]) (res2 Tryz.results33 rfl rfl) rfl (by decide) ⟨_,by rw [hs] <;> rfl,by rw [hs] <;> rfl⟩
  ·
   have hpos:0 < l.length:=by have:=of_decide_eq_false hsp3; omega
   refine R9 (M9 rfl rfl (L9 rfl (Pu_lenStr rfl Tryz.underlying9 rfl) (L9 rfl (Pn9 rfl rfl rfl (run_eql _ _ _ _ _ _)) (M9 rfl rfl (WL_gPT rfl rfl rfl (by rw [hsp3]; rfl) rfl (by decide) (Pm9 rfl rfl) (WL_gPT rfl rfl rfl (by rw [hsp3]; rfl) rfl (by decide) (Pu_idxStrN (0) rfl Tryz.underlying9 rfl rfl rfl hpos) (WL_gPT rfl rfl rfl (by rw [hsp3]; rfl) rfl (by decide) (Pn9 rfl rfl rfl (run_neq _ _ _ _ _ _)) (L9 rfl (Pu_pickF rfl rfl hsp3 rfl) (M9 rfl rfl (Lg9 rfl rfl rfl rfl (by decide) (fun hb=>(Pm9 rfl rfl)) (Lg9 rfl rfl rfl rfl (by decide) (fun hb=>(Pm9 rfl rfl)) (Lg9 rfl rfl rfl rfl (by decide) (fun hb=>(Pu_lenStr rfl Tryz.underlying9 (ev_gv rfl hb))) (Lg9 rfl rfl rfl rfl (by decide) (fun hb=>(Pn9 rfl (ev_gv rfl hb) rfl (run_sub _ _ _ _ _ (by omega)))) (Lg9 rfl rfl rfl rfl (by decide) (fun hb=>(Pu_idxStrN (l.length - 1) rfl Tryz.underlying9 (ev_gv rfl hb) (ev_gv rfl hb) (by omega) (by omega))) (Lg9 rfl rfl rfl rfl (by decide) (fun hb=>(Pn9 rfl (ev_gv rfl hb) rfl (run_eql _ _ _ _ _ _))) (L9 rfl (Pu_or rfl rfl rfl) (N9 (X9 ?_))))))))))))))))))
   refine C9 rfl (fun hc25=>?_) (fun hc25=>?_)
   ·
    have hnp:noPath l=true:=(noPath_ref hpos).symm.trans hc25
    refine Q9 (R9 (G9 rfl rfl (G9 rfl rfl (N9 (X9 ?_)))))
    refine W_ret (X_then_ret ?_)
    have hs:splitN l=([],10):=by unfold splitN; rw [if_neg h1,if_pos hnp]
    refine X_nilRow 9900 9 1 ?_
    exact Xq9 [9900] (Ps:=[_]) (res2 Tryz.results33 rfl rfl) rfl (by decide) ⟨_,by rw [hs] <;> rfl,by rw [hs] <;> rfl⟩
   ·
    have hnp:noPath l=false:=(noPath_ref hpos).symm.trans hc25
    refine K9 (X9 ?_)
    refine Q9 (R9 (G9 rfl rfl (N9 (X9 (Q9 (R9 (G9 rfl rfl (N9 (X9 (Q9 (Q9 (R9 (G9 rfl rfl (N9 (X9 ?_)))))))))))))))
    refine W_block ?_
    refine W_nilRow 101 9 1 ?_
    refine W_loop (α:=Nat × Nat × Value × List (List UInt8)) (fun x=>[(0,sV l),(4,x.2.2.1),(5,.int .i64 (x.2.1:Int)),(6,.int .i64 (x.1:Int))]) (fun x=>[(0,F),(101,rowS 9 x.2.2.1 x.2.2.2)]) (fun x=>RS l x.1 x.2.1 x.2.2.2) (fun x=>l.length + 1 - x.1) ((1,1,.slice none 0 0,[])) (RS_init hpos) (a9 rfl) (a9 rfl) (fun x hx=>?_)
    have hacc:=hx.2
    refine Q9 (Q9 (R9 (M9 rfl rfl (M9 rfl rfl (L9 rfl (Pu_lenStr rfl Tryz.underlying9 rfl) (L9 rfl (Pn9 rfl rfl rfl (run_leq _ _ _ _ _ _)) (N9 (X9 ?_))))))))
    refine C9 rfl (fun hc29=>?_) (fun hc29=>?_)
    ·
     have hle:x.1≤l.length:=by have:=of_decide_eq_true hc29; omega
     have hat:=RS_at hx hle
     refine K9 (X9 ?_)
     refine Q9 ?_
     refine W_block ?_
     refine Q9 (R9 (M9 rfl rfl (M9 rfl rfl (L9 rfl (Pu_lenStr rfl Tryz.underlying9 rfl) (L9 rfl (Pn9 rfl rfl rfl (run_eql _ _ _ _ _ _)) (M9 rfl rfl (Lg9 rfl rfl rfl rfl (by decide) (fun hb=>(Pm9 rfl rfl)) (Lg9 rfl rfl rfl rfl (by decide) (fun hb=>(Pm9 rfl rfl)) (Lg9 rfl rfl rfl rfl (by decide) (fun hb=>(Pu_idxStrN (x.1) rfl Tryz.underlying9 (ev_gv rfl hb) (ev_gv rfl hb) rfl (by have:=of_decide_eq_false (beq_false_of hb); omega))) (Lg9 rfl rfl rfl rfl (by decide) (fun hb=>(Pn9 rfl (ev_gv rfl hb) rfl (run_eql _ _ _ _ _ _))) (L9 rfl (Pu_or rfl rfl rfl) (N9 (X9 ?_)))))))))))))
     refine C9 rfl (fun hc41=>?_) (fun hc41=>?_)
     ·
      refine Q9 ?_
      unfold rowS
      refine R9 (M9 rfl rfl (M9 rfl rfl (M9 rfl rfl (M9 rfl rfl (L9 rfl (Pu_sliceStrE (a:=x.2.1) (b:=x.1) rfl Tryz.underlying9 rfl (.inr ⟨_,_,_,rfl,rfl,rfl⟩) (.inr ⟨_,_,_,rfl,rfl,rfl⟩) (by omega) (by omega) rfl) (Lc9 rfl rfl (by decide) (OpT_buildOnes (r:=102) [sV ((l.drop x.2.1).take (x.1 - x.2.1))] rfl rfl Tryz.runUnderlying63 Tryz.sizeOf9 Tryz.zeroValue9 rfl rfl (by decide) rfl (by simp [Value.cells]) (fun v47=>(Lc9 rfl rfl (by decide) (Oa9 (r:=101) (r2:=102) rfl Tryz.underlying63 TI.hi9 TI.hz9 TI.hs9 TI.hby9 TI.hzs9 (by decide) rfl rfl rfl rfl (fun _ h=>rp9 h) (ss_one [_]) (by unfold maxLen; omega) (by omega) (fun v48=>?_)))))))))))
      refine (G9 rfl rfl (N9 (X9 ?_)))
      refine R9 (M9 rfl rfl (L9 rfl (Pn9 rfl rfl rfl (run_add _ _ _ _ _ (by omega))) (G9 rfl rfl (N9 (X_block (X9 (R9 (M9 rfl rfl (L9 rfl (Pn9 rfl rfl rfl (run_add _ _ _ _ _ (by omega))) (G9 rfl rfl (N9 ?_)))))))))))
      exact Xr9 (x.1 + 1,x.1 + 1,v48,x.2.2.2++[(l.drop x.2.1).take (x.1 - x.2.1)]) (RS_cut hx hle hc41) (by dsimp only; omega) ⟨rfl,rfl,rfl,rfl,trivial⟩ ⟨rfl,look_eq rfl (rowS_of (x.2.2.2++[(l.drop x.2.1).take (x.1 - x.2.1)]) (by simp) (by rw [ss_append]; rfl)),trivial⟩
     ·
      refine K9 (X_block (X9 ?_))
      refine R9 (M9 rfl rfl (L9 rfl (Pn9 rfl rfl rfl (run_add _ _ _ _ _ (by omega))) (G9 rfl rfl (N9 ?_))))
      exact Xr9 (x.1 + 1,x.2.1,x.2.2.1,x.2.2.2) (RS_go hx hle hc41) (by dsimp only; omega) (a9 rfl) (a9 rfl)
    ·
     have hgt:¬ x.1≤l.length:=by have:=of_decide_eq_false hc29; omega
     have hacc2:x.2.2.2=splitL (l.drop 1):=RS_end hx hgt
     have hsl:=splitL_len (l.drop 1)
     rw [List.length_drop] at hsl
     rw [hacc2]
     refine W_exit (X_then_exit (X_then_exit (X_block_exit (X9 ?_))))
     refine Q9 (Q9 (R9 (M9 rfl rfl (L9 rfl (Pl9 (r:=101) rfl Tryz.runUnderlying63 rfl rfl rowS_rd) (L9 rfl (Pn9 rfl rfl rfl (run_gtr _ _ _ _ _ _)) (N9 (X9 ?_)))))))
     refine C9 rfl (fun hc53=>?_) (fun hc53=>?_)
     ·
      have h5:=of_decide_eq_true hc53
      refine Q9 (R9 (G9 rfl rfl (G9 rfl rfl (N9 (X9 ?_)))))
      refine W_ret (X_then_ret ?_)
      have ha:allN (splitL (l.drop 1))=4:=by unfold allN; rw [if_pos (by omega)]
      have hs:splitN l=([],4):=by unfold splitN; rw [if_neg h1,if_neg (by simp [hnp]),ha]; rfl
      refine X_nilRow 9900 9 1 ?_
      exact Xq9 [9900] (Ps:=[_]) (res2 Tryz.results33 rfl rfl) rfl (by decide) ⟨_,by rw [hs] <;> rfl,by rw [hs] <;> rfl⟩
     ·
      have h5:=of_decide_eq_false hc53
      refine K9 (X9 ?_)
      refine Q9 (Q9 (R9 (G9 rfl rfl (N9 (X9 ?_)))))
      refine W_block ?_
      refine W_loop (α:=Nat) (fun i=>[(4,x.2.2.1),(7,.int .i64 (i:Int))]) (fun i=>[(0,F),(101,rowS 9 x.2.2.1 (splitL (l.drop 1)))]) (fun i=>i≤(splitL (l.drop 1)).length∧firstBad ((splitL (l.drop 1)).drop i)=firstBad (splitL (l.drop 1))) (fun i=>(splitL (l.drop 1)).length - i) (0) ⟨Nat.zero_le _,rfl⟩ (a9 rfl) (a9 rfl) (fun k hk=>?_)
      obtain ⟨hkl,hfb⟩:=hk
      refine Q9 (Q9 (R9 (M9 rfl rfl (M9 rfl rfl (L9 rfl (Pl9 (r:=101) rfl Tryz.runUnderlying63 rfl rfl rowS_rd) (L9 rfl (Pn9 rfl rfl rfl (run_lss _ _ _ _ _ _)) (N9 (X9 ?_))))))))
      refine C9 rfl (fun hc57=>?_) (fun hc57=>?_)
      ·
       have hlt:k < (splitL (l.drop 1)).length:=by have:=of_decide_eq_true hc57; omega
       refine K9 (X9 ?_)
       refine Q9 ?_
       refine W_block ?_
       refine Q9 (R9 (M9 rfl rfl (M9 rfl rfl (L9 rfl (Pu_idxS1 (r:=101) rfl Tryz.runUnderlying63 Tryz.sizeOf9 rfl rfl rfl rowS_rd (by omega)) (L9 rfl (Py9 (r:=101) rfl Tryz.isAgg9 rfl rfl rowS_rd (ss_at hlt)) (Lc9 rfl rfl (by decide) (Oc9 200 [0,101] [] rfl Tryz.call50 rfl rfl rfl (by decide) (by decide) (check_rspec ((splitL (l.drop 1)).getD k []) (by have:=splitL_mem (getD_mem hlt); simp only [List.length_drop] at this; omega) _) (fun v64 Ps64 hR64=>?_))))))))
       obtain ⟨rfl,rfl⟩:=hR64
       refine (L9 rfl (Pn9 rfl rfl rfl (run_neq _ _ _ _ _ _)) (N9 (X9 ?_)))
       refine C9 rfl (fun hc65=>?_) (fun hc65=>?_)
       ·
        have hbad:¬ (checkN ((splitL (l.drop 1)).getD k []):Int)=0:=by simpa using hc65
        refine Q9 (R9 (M9 rfl rfl (M9 rfl rfl (L9 rfl (Pu_idxS1 (r:=101) rfl Tryz.runUnderlying63 Tryz.sizeOf9 rfl rfl rfl rowS_rd (by omega)) (L9 rfl (Py9 (r:=101) rfl Tryz.isAgg9 rfl rfl rowS_rd (ss_at hlt)) (Lc9 rfl rfl (by decide) (Oc9 300 [0,101] [] rfl Tryz.call50 rfl rfl rfl (by decide) (by decide) (check_rspec ((splitL (l.drop 1)).getD k []) (by have:=splitL_mem (getD_mem hlt); simp only [List.length_drop] at this; omega) _) (fun v70 Ps70 hR70=>?_))))))))
        obtain ⟨rfl,rfl⟩:=hR70
        refine (G9 rfl rfl (G9 rfl rfl (N9 (X9 ?_))))
        refine W_ret (X_block_ret (X_then_ret (X_then_ret (X_block_ret (X_then_ret ?_)))))
        have ha:allN (splitL (l.drop 1))=checkN ((splitL (l.drop 1)).getD k []):=by unfold allN; rw [if_neg (by omega),← hfb,firstBad_bad hlt hbad]
        have hs:splitN l=([],checkN ((splitL (l.drop 1)).getD k [])):=by unfold splitN; rw [if_neg h1,if_neg (by simp [hnp]),ha,if_pos (by omega)]
        refine X_nilRow 9900 9 1 ?_
        exact Xq9 [9900] (Ps:=[_]) (res2 Tryz.results33 rfl rfl) rfl (by decide) ⟨_,by rw [hs] <;> rfl,by rw [hs] <;> rfl⟩
       ·
        have hgood:(checkN ((splitL (l.drop 1)).getD k []):Int)=0:=by simpa using hc65
        refine K9 (X_block (X9 ?_))
        refine R9 (M9 rfl rfl (L9 rfl (Pn9 rfl rfl rfl (run_add _ _ _ _ _ (by omega))) (G9 rfl rfl (N9 ?_))))
        exact Xr9 (k + 1) ⟨hlt,by rw [← hfb,firstBad_good hlt hgood]⟩ (by omega) (a9 rfl) (a9 rfl)
      ·
       have hge:(splitL (l.drop 1)).length≤k:=by have:=of_decide_eq_false hc57; omega
       refine W_exit (X_then_exit (X_then_exit (X_block_exit (X9 ?_))))
       refine Q9 (R9 (M9 rfl rfl (G9 rfl rfl (G9 rfl rfl (N9 (X9 ?_))))))
       refine W_ret ?_
       have ha:allN (splitL (l.drop 1))=0:=by unfold allN; rw [if_neg (by omega),← hfb,firstBad_end hge]
       have hs:splitN l=(splitL (l.drop 1),0):=by unfold splitN; rw [if_neg h1,if_neg (by simp [hnp]),if_neg (fun hc=>hc ha)]
       exact Xq9 [101] (Ps:=[_]) (res2 Tryz.results33 rfl rfl) rfl (by decide) ⟨_,by rw [hs] <;> rfl,by rw [hs]⟩
theorem join_rspec (v:Value) (ls:List (List UInt8)) (hlen:(jn ls).length < 140737488355328) (F:HP) (hF:∀ h,F h→rdS v ls h):CallsS Tryz.prog 27 #[v] F [] (fun r Ps=>r = .tuple #[sV (joinN ls).1,.int .i64 ((joinN ls).2:Int)]∧Ps=[]):=by
 refine callsS_enter Tryz.func27 rfl Tryz.ntmps27 (by simp) (fun E=>?_)
 refine Q9 (R9 (G9 rfl rfl (G9 rfl rfl (N9 (X9 (Q9 (Q9 (R9 (M9 rfl rfl (L9 rfl (Pl9 (r:=0) rfl Tryz.runUnderlying63 rfl rfl hF) (L9 rfl (Pn9 rfl rfl rfl (run_gtr _ _ _ _ _ _)) (N9 (X9 ?_)))))))))))))
 refine C9 rfl (fun hc8=>?_) (fun hc8=>?_)
 ·
  have h5:=of_decide_eq_true hc8
  refine Q9 (R9 (G9 rfl rfl (G9 rfl rfl (N9 (X9 ?_)))))
  refine W_ret (X_then_ret ?_)
  have hs:joinN ls=([],4):=by rw [joinN_eq,show allN ls=4 by unfold allN; rw [if_pos (by omega)]]; rfl
  exact Xq9 [] (Ps:=[]) (res2 Tryz.results27 rfl rfl) rfl (by decide) ⟨by rw [hs] <;> rfl,rfl⟩
 ·
  have h5:=of_decide_eq_false hc8
  refine K9 (X9 ?_)
  refine Q9 (R9 (G9 rfl rfl (N9 (X9 (Q9 (Q9 (R9 (G9 rfl rfl (N9 (X9 ?_))))))))))
  refine W_block ?_
  refine W_loop (α:=Nat) (fun i=>[(0,v),(4,sV (jn (ls.take i))),(5,.int .i64 (i:Int))]) (fun i=>[(0,F)]) (fun i=>i≤ls.length∧firstBad (ls.drop i)=firstBad ls) (fun i=>ls.length - i) (0) ⟨Nat.zero_le _,rfl⟩ (a9 rfl) ⟨rfl,trivial⟩ (fun x hx=>?_)
  obtain ⟨hkl,hfb⟩:=hx
  refine Q9 (Q9 (R9 (M9 rfl rfl (M9 rfl rfl (L9 rfl (Pl9 (r:=0) rfl Tryz.runUnderlying63 rfl rfl hF) (L9 rfl (Pn9 rfl rfl rfl (run_lss _ _ _ _ _ _)) (N9 (X9 ?_))))))))
  refine C9 rfl (fun hc12=>?_) (fun hc12=>?_)
  ·
   have hlt:x < ls.length:=by have:=of_decide_eq_true hc12; omega
   have hmm:=jn_mem (getD_mem hlt)
   have hj1:=jn_le ls (x + 1)
   rw [jn_succ hlt] at hj1
   simp only [List.length_append,List.length_cons,List.length_nil] at hj1
   refine K9 (X9 ?_)
   refine Q9 ?_
   refine W_block ?_
   refine Q9 (Q9 (R9 (M9 rfl rfl (M9 rfl rfl (L9 rfl (Pu_idxS1 (r:=0) rfl Tryz.runUnderlying63 Tryz.sizeOf9 rfl rfl rfl hF (by omega)) (L9 rfl (Py9 (r:=0) rfl Tryz.isAgg9 rfl rfl hF (ss_at hlt)) (Lc9 rfl rfl (by decide) (Oc9 200 [0] [] rfl Tryz.call50 rfl rfl rfl (by decide) (by decide) (check_rspec (ls.getD x []) (by omega) _) (fun v19 Ps19 hR19=>?_)))))))))
   obtain ⟨rfl,rfl⟩:=hR19
   refine (L9 rfl (Pn9 rfl rfl rfl (run_neq _ _ _ _ _ _)) (N9 (X9 ?_)))
   refine C9 rfl (fun hc20=>?_) (fun hc20=>?_)
   ·
    have hbad:¬ (checkN (ls.getD x []):Int)=0:=by simpa using hc20
    refine Q9 (R9 (M9 rfl rfl (M9 rfl rfl (L9 rfl (Pu_idxS1 (r:=0) rfl Tryz.runUnderlying63 Tryz.sizeOf9 rfl rfl rfl hF (by omega)) (L9 rfl (Py9 (r:=0) rfl Tryz.isAgg9 rfl rfl hF (ss_at hlt)) (Lc9 rfl rfl (by decide) (Oc9 300 [0] [] rfl Tryz.call50 rfl rfl rfl (by decide) (by decide) (check_rspec (ls.getD x []) (by omega) _) (fun v25 Ps25 hR25=>?_))))))))
    obtain ⟨rfl,rfl⟩:=hR25
    refine (G9 rfl rfl (G9 rfl rfl (N9 (X9 ?_))))
    refine W_ret (X_then_ret (X_block_ret (X_then_ret (X_then_ret (X_block_ret (X_then_ret ?_))))))
    have hs:joinN ls=([],checkN (ls.getD x [])):=by rw [joinN_eq,show allN ls=checkN (ls.getD x []) by unfold allN; rw [if_neg (by omega),← hfb,firstBad_bad hlt hbad],if_pos (by omega)]
    exact Xq9 [] (Ps:=[]) (res2 Tryz.results27 rfl rfl) rfl (by decide) ⟨by rw [hs] <;> rfl,rfl⟩
   ·
    have hgood:(checkN (ls.getD x []):Int)=0:=by simpa using hc20
    refine K9 (X9 ?_)
    refine R9 (M9 rfl rfl (L9 rfl (Pn9 rfl rfl rfl (run_addL _ _ _ _ _ (by simp only [List.length_cons,List.length_nil]; omega))) (M9 rfl rfl (M9 rfl rfl (L9 rfl (Pu_idxS1 (r:=0) rfl Tryz.runUnderlying63 Tryz.sizeOf9 rfl rfl rfl hF (by omega)) (L9 rfl (Py9 (r:=0) rfl Tryz.isAgg9 rfl rfl hF (ss_at hlt)) (L9 rfl (Pn9 rfl rfl rfl (run_addL _ _ _ _ _ (by simp only [List.length_append,List.length_cons,List.length_nil,Int.toNat_natCast]; omega))) (G9 rfl rfl (N9 (X_block (X9 (R9 (M9 rfl rfl (L9 rfl (Pn9 rfl rfl rfl (run_add _ _ _ _ _ (by omega))) (G9 rfl rfl (N9 ?_))))))))))))))))
    exact Xr9 (x + 1) ⟨hlt,by rw [← hfb,firstBad_good hlt hgood]⟩ (by omega) ⟨rfl,congrArg some (by rw [jn_succ hlt] <;> rfl),rfl,trivial⟩ ⟨rfl,trivial⟩
  ·
   have hge:ls.length≤x:=by have:=of_decide_eq_false hc12; omega
   rw [List.take_of_length_le hge]
   refine W_exit (X_then_exit (X_then_exit (X_block_exit (X9 ?_))))
   refine Q9 (Q9 (R9 (M9 rfl rfl (L9 rfl (Pn9 rfl rfl rfl (run_strEq _ _ _ _ _)) (N9 (X9 ?_))))))
   refine C9 rfl (fun hc34=>?_) (fun hc34=>?_)
   ·
    have hj:jn ls=[]:=by simpa using hc34
    refine Q9 (R9 (G9 rfl rfl (G9 rfl rfl (N9 (X9 ?_)))))
    refine W_ret (X_then_ret ?_)
    have hs:joinN ls=([47],0):=by rw [joinN_eq,show allN ls=0 by unfold allN; rw [if_neg (by omega),← hfb,firstBad_end hge],if_neg (by omega),if_pos hj]
    exact Xq9 [] (Ps:=[]) (res2 Tryz.results27 rfl rfl) rfl (by decide) ⟨by rw [hs] <;> rfl,rfl⟩
   ·
    have hj:¬ jn ls=[]:=by simpa using hc34
    refine K9 (X9 ?_)
    refine Q9 (R9 (M9 rfl rfl (G9 rfl rfl (G9 rfl rfl (N9 (X9 ?_))))))
    refine W_ret ?_
    have hs:joinN ls=(jn ls,0):=by rw [joinN_eq,show allN ls=0 by unfold allN; rw [if_neg (by omega),← hfb,firstBad_end hge],if_neg (by omega),if_neg hj]
    exact Xq9 [] (Ps:=[]) (res2 Tryz.results27 rfl rfl) rfl (by decide) ⟨by rw [hs] <;> rfl,rfl⟩
end Go.Proofs.YthkdkmaacjpneaaGreatDoor
namespace Go.Proofs.YthkdkmaacjpneaaGreatDoor
open Go.RowKit
section
variable {κ:Type} [DecidableEq κ]
def findG (k:κ):List (κ × Value)→Nat→Option (Nat × Value)
  | [],_=>none
  | p::es,i=>if k=p.1 then some (i,p.2) else findG k es (i + 1)
def lookQ (k:κ):List (κ × Value)→Option Value
  | []=>none
  | p::es=>if k=p.1 then some p.2 else lookQ k es
def setQ (k:κ) (v:Value):List (κ × Value)→List (κ × Value)
  | []=>[]
  | p::es=>if k=p.1 then (k,v)::es else p::setQ k v es
def delQ (k:κ):List (κ × Value)→List (κ × Value)
  | []=>[]
  | p::es=>if k=p.1 then es else p::delQ k es
theorem findG_none (k:κ):∀ (es:List (κ × Value)) (i:Nat),findG k es i=none→lookQ k es=none∧delQ k es=es∧∀ p ∈ es,k≠p.1
  | [],_,_=>⟨rfl,rfl,by simp⟩
  | p::es,i,h=>by
    rw [findG] at h
    by_cases hk:k=p.1
    · simp [hk] at h
    · rw [if_neg hk] at h
      obtain ⟨h1,h2,h3⟩:=findG_none k es (i + 1) h
      refine ⟨by rw [lookQ,if_neg hk,h1],by rw [delQ,if_neg hk,h2],fun q hq=>?_⟩
      rcases List.mem_cons.1 hq with rfl | hq
      · exact hk
      · exact h3 q hq
theorem findG_some (k:κ):∀ (es:List (κ × Value)) (i j:Nat) (v:Value),findG k es i=some (j,v)→i≤j∧lookQ k es=some v∧es[j - i]?=some (k,v)∧delQ k es=es.eraseIdx (j - i)∧∀ v',setQ k v' es=es.set (j - i) (k,v')
  | [],_,_,_,h=>by simp [findG] at h
  | p::es,i,j,v,h=>by
    rw [findG] at h
    by_cases hk:k=p.1
    · rw [if_pos hk] at h
      injection h with h
      injection h with h1 h2
      subst h1; subst h2
      refine ⟨Nat.le_refl _,by rw [lookQ,if_pos hk],?_,?_,fun v'=>?_⟩
      · rw [Nat.sub_self,List.getElem?_cons_zero,hk]
      · rw [Nat.sub_self,delQ,if_pos hk]; rfl
      · rw [Nat.sub_self,setQ,if_pos hk]; rfl
    · rw [if_neg hk] at h
      obtain ⟨h1,h2,h3,h4,h5⟩:=findG_some k es (i + 1) j v h
      have e:j - i=(j - (i + 1)) + 1:=by omega
      refine ⟨by omega,by rw [lookQ,if_neg hk,h2],?_,?_,fun v'=>?_⟩
      · rw [e,List.getElem?_cons_succ,h3]
      · rw [e,delQ,if_neg hk,h4]; rfl
      · rw [e,setQ,if_neg hk,h5 v']; rfl
structure KeyT (P:Program) (kt:TypeId) (enc:κ→Value) (ok:κ→Prop):Prop where
  check:∀ em k w,ok k→(Instr.checkKey em 10000 kt (enc k)).run P w = .ok () w
  find:∀ k w (es:List (κ × Value)) (a:List MapEntry),ok k→(∀ p ∈ es,ok p.1)→a.map (fun e=>(e.key,e.val))=es.map (fun p=>(enc p.1,p.2))→(Instr.findKey kt (enc k) a).run P w = .ok (findG k es 0) w
  inj:∀ a b,enc a=enc b→a=b
  stays:∀ k w,(Instr.keyThatStays (enc k) (enc k)).run P w = .ok (enc k) w
def kvs (enc:κ→Value) (es:List (κ × Value)):List (Value × Value):=es.map fun p=>(enc p.1,p.2)
def ekv (l:List MapEntry):List (Value × Value):=l.map fun e=>(e.key,e.val)
abbrev It (κ:Type):=Nat × List (κ × Value) × Option (κ × Value)
def mapQ (enc:κ→Value) (ok:κ→Prop) (g:Nat) (es:List (κ × Value)) (it:Option (It κ)):HP:=fun h=>(∀ p ∈ es,ok p.1)∧∃ a clk,h g=some (.map a clk)∧MapKept.Stamped a clk∧ekv a.toList=kvs enc es ∧
  match it with
  | none=>True
  | some (r,left,cur)=>∃ seen:Array Nat,h r=some (.mapIter (some g) clk seen clk)∧r≠g∧ekv (a.toList.filter fun e=>!seen.contains e.born)=kvs enc left ∧
    match cur with
    | none=>True
    | some p=>∃ (seen0:Array Nat) (e:MapEntry),e ∈ a.toList∧seen=seen0.push e.born∧(e.key,e.val)=(enc p.1,p.2)
variable {P:Program} {E:Env} {n:Nat} {K:Slots} {L:Res} {o:Oper} {C:Value→Res→Prop} {kt mt et:TypeId} {enc:κ→Value} {ok:κ→Prop}
theorem mapQ_none {g:Nat} {es:List (κ × Value)} {it:Option (It κ)} {h:Hlt} (hp:mapQ enc ok g es it h):mapQ enc ok g es none h:=by
  obtain ⟨h1,a,clk,h2,h3,h4,_⟩:=hp
  exact ⟨h1,a,clk,h2,h3,h4,trivial⟩
theorem mapQ_uncur {g r:Nat} {es left:List (κ × Value)} {cur:Option (κ × Value)} {h:Hlt} (hp:mapQ enc ok g es (some (r,left,cur)) h):mapQ enc ok g es (some (r,left,none)) h:=by
  obtain ⟨h1,a,clk,h2,h3,h4,seen,s1,s2,s3,_⟩:=hp
  exact ⟨h1,a,clk,h2,h3,h4,seen,s1,s2,s3,trivial⟩
theorem run_lookupQ (T:KeyT P kt enc ok) (hm:P.underlying mt=some (.map kt et)) {z:Value} (hz:∀ w,(zeroValue et).run P w = .ok z w)
    {g:Nat} {es:List (κ × Value)} {it:Option (It κ)} {h:Hlt} {w:World} (hp:mapQ enc ok g es it h) (hi:In h w) (k:κ) (hl:ok k) (okb:Bool) :
    (Instr.lookup mt (.map (some g)) (enc k) okb).run P w = .ok (if okb then .tuple #[(lookQ k es).getD z,.bool (lookQ k es).isSome] else (lookQ k es).getD z) w:=by
  obtain ⟨h1,a,clk,h2,_,h3,_⟩:=hp
  have hg:=hi _ _ h2
  unfold Instr.lookup
  simp only [Sem.run_bind,run_underlying hm,Result.andThen_ok,MapKept.run_getObj_map hg,Sem.run_pure,T.check _ k _ hl,T.find k w es a.toList hl h1 h3]
  cases hf:findG k es 0 with
  | none=>rw [(findG_none k es 0 hf).1]; simp [hz]
  | some jv =>
    obtain ⟨j,v⟩:=jv
    rw [(findG_some k es 0 j v hf).2.1]
    cases okb <;> simp
theorem Pu_lookupQ {r g:Nat} {x y:Operand} {k:κ} {es:List (κ × Value)} {it:Option (It κ)} {z:Value} (T:KeyT P kt enc ok) (ho:o.op = .lookup mt x y false) (hm:P.underlying mt=some (.map kt et)) (hz:∀ w,(zeroValue et).run P w = .ok z w)
    (hx:evK K x=some (.map (some g))) (hy:evK K y=some (enc k)) (hl:ok k) (hr:look L r=some (mapQ enc ok g es it)):Pure P E n o K L ((lookQ k es).getD z):=fun a w hA hS=>by
  obtain ⟨h,q1,q2⟩:=hS.read hr
  have:=run_lookupQ T hm hz q1 q2 k hl false
  simp only [Bool.false_eq_true,if_false] at this
  simp only [execOp,ho,hA.eval hx,hA.eval hy,Sem.run_bind,this]
  rfl
theorem Pu_lookupOkQ {r g:Nat} {x y:Operand} {k:κ} {es:List (κ × Value)} {it:Option (It κ)} {z:Value} (T:KeyT P kt enc ok) (ho:o.op = .lookup mt x y true) (hm:P.underlying mt=some (.map kt et)) (hz:∀ w,(zeroValue et).run P w = .ok z w)
    (hx:evK K x=some (.map (some g))) (hy:evK K y=some (enc k)) (hl:ok k) (hr:look L r=some (mapQ enc ok g es it)):Pure P E n o K L (.tuple #[(lookQ k es).getD z,.bool (lookQ k es).isSome]):=fun a w hA hS=>by
  obtain ⟨h,q1,q2⟩:=hS.read hr
  have:=run_lookupQ T hm hz q1 q2 k hl true
  simp only [if_true] at this
  simp only [execOp,ho,hA.eval hx,hA.eval hy,Sem.run_bind,this]
  rfl
theorem OpT_makeMapQ {r:Nat} (enc:κ→Value) (ok:κ→Prop) (ho:o.op = .makeMap mt none) (k:∀ g,C (.map (some g)) ((r,mapQ enc ok g [] none)::L)):OpT P E n o K L C:=fun a w Kc Q hA hS hK=>by
  have hrun:=run_makeMap (P:=P) mt w
  unfold Oper.wp execOp
  simp only [ho,Option.map_none,Sem.run_bind,hrun,Result.andThen_ok,Sem.run_pure]
  refine hK _ _ _ (k _) (hS.new r ?_ (fun g=>if g=w.heap.size then some (.map #[] 0) else none) ?_ ?_ ?_)
  · exact ⟨rfl,rfl,rfl,by simp,fun k hk _=>heap_alloc_old w _ hk⟩
  · exact ⟨fun x hx=>by simp at hx,#[],0,by simp,MapKept.stamped_empty 0,rfl,trivial⟩
  · intro g o h
    by_cases hg:g=w.heap.size
    · subst hg
      simp at h
      subst h
      exact heap_alloc_new w _
    · simp [hg] at h
  · intro g hg
    by_cases hg':g=w.heap.size
    · omega
    · simp [hg'] at hg
theorem mapQ_step {w:World} {r g:Nat} {Pm P':HP} (hS:Sat E L w) (hr:look L r=some Pm) (a':Array MapEntry) (clk':Nat) (hg:∀ h,Pm h→(h g).isSome=true)
    {a:Array MapEntry} {clk:Nat} (hw:w.heap[g]?=some (.map a clk)) (H:∀ h,Pm h→In h w→P' (fun q=>if q=g then some (.map a' clk') else h q)):Sat E ((r,P')::L) { w with heap:=w.heap.setIfInBounds g (.map a' clk') } :=
  hS.step hr fun h hp hin=>by
    obtain ⟨s1,s2⟩:=setObj_step (.map a' clk') hw
    refine ⟨[g],_,by simpa using hg h hp,s1,H h hp hin,fun q o ho=>?_,fun q hq=>?_⟩
    · by_cases hqg:q=g
      · subst hqg; simp at ho; subst ho; exact s2
      · simp [hqg] at ho
        have:=hin q o ho
        show (w.heap.setIfInBounds g _)[q]?=some o
        rw [Array.getElem?_setIfInBounds_ne (Ne.symm hqg)]
        exact this
    · by_cases hqg:q=g
      · subst hqg; exact .inl (hg h hp)
      · simp [hqg] at hq; exact .inl hq
theorem mapQ_dom {g:Nat} {es:List (κ × Value)} {it:Option (It κ)}:∀ h,mapQ enc ok g es it h→(h g).isSome=true:=fun h ⟨_,a,clk,h2,_⟩=>by simp [h2]
theorem ekv_len {a:Array MapEntry} {es:List (κ × Value)} (h:ekv a.toList=kvs enc es):a.size=es.length:=by
  have:=congrArg List.length h
  simpa [ekv,kvs] using this
theorem ekv_get {a:Array MapEntry} {es:List (κ × Value)} (h:ekv a.toList=kvs enc es) {j:Nat} {k:κ} {v:Value} (hj:es[j]?=some (k,v)):∃ e,a[j]?=some e∧e.key=enc k∧e.val=v:=by
  have h1:(kvs enc es)[j]?=some (enc k,v):=by simp [kvs,hj]
  rw [← h] at h1
  simp only [ekv,List.getElem?_map,Array.getElem?_toList] at h1
  cases ha:a[j]? with
  | none=>rw [ha] at h1; cases h1
  | some e =>
    rw [ha] at h1
    simp at h1
    exact ⟨e,rfl,h1.1,h1.2⟩
theorem OpT_mapAddQ {r g:Nat} {x y z:Operand} {k:κ} {v:Value} {es:List (κ × Value)} (T:KeyT P kt enc ok) (ho:o.op = .mapUpdate mt x y z) (hm:P.underlying mt=some (.map kt et))
    (hx:evK K x=some (.map (some g))) (hy:evK K y=some (enc k)) (hl:ok k) (hz:evK K z=some v) (hr:look L r=some (mapQ enc ok g es none)) (hno:lookQ k es=none) (hc:C undef ((r,mapQ enc ok g (es++[(k,v)]) none)::L)):OpT P E n o K L C:=fun a w Kc Q hA hS hK=>by
  obtain ⟨h,q1,q2⟩:=hS.read hr
  obtain ⟨h1,b,clk,h2,hst,h3,_⟩:=q1
  have hg:=q2 _ _ h2
  have hf:findG k es 0=none:=by
    cases hf:findG k es 0 with
    | none=>rfl
    | some jv=>rw [(findG_some k es 0 jv.1 jv.2 hf).2.1] at hno; cases hno
  have hrun:(Instr.mapUpdate mt (.map (some g)) (enc k) v).run P w = .ok () { w with heap:=w.heap.setIfInBounds g (.map (b.push { key:=enc k,val:=v,born:=clk }) (clk + 1)) }:=by
    unfold Instr.mapUpdate
    simp only [Sem.run_bind,run_underlying hm,Result.andThen_ok,MapKept.run_getObj_map hg,Sem.run_pure,T.check _ k _ hl,T.find k w es b.toList hl h1 h3,hf,MapKept.run_setObj_map _ hg]
  unfold Oper.wp execOp
  simp only [ho,hA.eval hx,hA.eval hy,hA.eval hz,Sem.run_bind,hrun,Result.andThen_ok,Sem.run_pure]
  refine hK _ _ _ hc (mapQ_step hS hr _ _ mapQ_dom hg fun h' hp' hin'=>?_)
  have hx':=(findG_none k es 0 hf).2.2
  refine ⟨?_,b.push { key:=enc k,val:=v,born:=clk },clk + 1,if_pos rfl,MapKept.stamped_push hst fun x hx=>?_,?_,trivial⟩
  · intro p hp
    rcases List.mem_append.1 hp with hp | hp
    · exact h1 p hp
    · rw [List.mem_singleton.1 hp]; exact hl
  · intro hke
    have:(x.key,x.val) ∈ kvs enc es:=by rw [← h3]; exact List.mem_map.2 ⟨x,hx,rfl⟩
    obtain ⟨p,hp,hpe⟩:=List.mem_map.1 this
    injection hpe with e1 e2
    exact hx' p hp (T.inj _ _ (by rw [e1,hke]))
  · simp only [ekv,kvs,Array.toList_push,List.map_append,List.map_cons,List.map_nil]
    exact congrArg (·++[(enc k,v)]) h3
theorem map_modify_set {α β:Type} (f:α→β) (m:α→α) (b:β):∀ (l:List α) (i:Nat),(∀ x,f (m x)=b)→(l.modify i m).map f=(l.map f).set i b
  | [],i,_=>by simp
  | x::l,0,hb=>by simp [hb]
  | x::l,i + 1,hb=>by simp [map_modify_set f m b l i hb]
theorem OpT_mapSetQ {r g:Nat} {x y z:Operand} {k:κ} {v:Value} {es:List (κ × Value)} (T:KeyT P kt enc ok) (ho:o.op = .mapUpdate mt x y z) (hm:P.underlying mt=some (.map kt et))
    (hx:evK K x=some (.map (some g))) (hy:evK K y=some (enc k)) (hl:ok k) (hz:evK K z=some v) (hr:look L r=some (mapQ enc ok g es none)) (hno:(lookQ k es).isSome=true) (hc:C undef ((r,mapQ enc ok g (setQ k v es) none)::L)):OpT P E n o K L C:=fun a w Kc Q hA hS hK=>by
  obtain ⟨h,q1,q2⟩:=hS.read hr
  obtain ⟨h1,b,clk,h2,hst,h3,_⟩:=q1
  have hg:=q2 _ _ h2
  cases hf:findG k es 0 with
  | none=>rw [(findG_none k es 0 hf).1] at hno; cases hno
  | some jv =>
    obtain ⟨j,u⟩:=jv
    obtain ⟨_,_,f3,_,f5⟩:=findG_some k es 0 j u hf
    rw [Nat.sub_zero] at f3
    have f5:=f5 v
    rw [Nat.sub_zero] at f5
    obtain ⟨e,he,hek,hev⟩:=ekv_get h3 f3
    have hrun:(Instr.mapUpdate mt (.map (some g)) (enc k) v).run P w = .ok () { w with heap:=w.heap.setIfInBounds g (.map (b.modify j fun e=>{ e with key:=enc k,val:=v }) clk) }:=by
      unfold Instr.mapUpdate
      simp only [Sem.run_bind,run_underlying hm,Result.andThen_ok,MapKept.run_getObj_map hg,Sem.run_pure,T.check _ k _ hl,T.find k w es b.toList hl h1 h3,hf,he,Option.map_some,Option.getD_some,hek,T.stays,MapKept.run_setObj_map _ hg]
    unfold Oper.wp execOp
    simp only [ho,hA.eval hx,hA.eval hy,hA.eval hz,Sem.run_bind,hrun,Result.andThen_ok,Sem.run_pure]
    refine hK _ _ _ hc (mapQ_step hS hr _ _ mapQ_dom hg fun h' hp' hin'=>?_)
    refine ⟨?_,b.modify j fun e=>{ e with key:=enc k,val:=v },clk,if_pos rfl,MapKept.stamped_modify hst j _ (fun _ _=>rfl) (fun x hx hj=>?_),?_,trivial⟩
    · rw [f5]
      intro p hp
      rcases List.mem_or_eq_of_mem_set hp with hp | hp
      · exact h1 p hp
      · rw [hp]; exact hl
    · rw [he] at hj; injection hj with hj; rw [← hj]; exact hek.symm
    · rw [f5]
      simp only [ekv,kvs,Array.toList_modify,List.map_set]
      rw [map_modify_set (fun e:MapEntry=>(e.key,e.val)) (fun e:MapEntry=>{ e with key:=enc k,val:=v }) (enc k,v) _ _ (fun x=>rfl)]
      exact congrArg (fun l=>List.set l j (enc k,v)) h3
theorem OpT_rangeQ {r g:Nat} {x:Operand} {es:List (κ × Value)} (ho:o.op = .range mt x) (hm:P.underlying mt=some (.map kt et)) (hx:evK K x=some (.map (some g))) (hr:look L r=some (mapQ enc ok g es none))
    (hc:∀ i,C (.pointer (some ⟨i,0,none⟩)) ((r,mapQ enc ok g es (some (i,es,none)))::L)):OpT P E n o K L C:=fun a w Kc Q hA hS hK=>by
  obtain ⟨h,q1,q2⟩:=hS.read hr
  obtain ⟨h1,b,clk,h2,hst,h3,_⟩:=q1
  have hg:=q2 _ _ h2
  have hrun:=run_range_map w mt kt et g b clk hm hg
  unfold Oper.wp execOp
  simp only [ho,hA.eval hx,Sem.run_bind,hrun,Result.andThen_ok,Sem.run_pure]
  refine hK _ _ _ (hc _) (hS.step hr fun h' hp' hin'=>?_)
  have hlt:=lt_of_heap hg
  obtain ⟨_,a2,clk2,i2,_,_,_⟩:=hp'
  have:=hin' _ _ i2
  rw [hg] at this
  injection this with this
  injection this with this1 this2
  subst this1; subst this2
  refine ⟨[],fun q=>if q=w.heap.size then some (.mapIter (some g) clk #[] clk) else h' q,by simp,⟨rfl,rfl,rfl,by simp,fun k hk _=>heap_alloc_old w _ hk⟩,?_,fun q o ho=>?_,fun q hq=>?_⟩
  · refine ⟨h1,b,clk,by simp [i2,Nat.ne_of_lt hlt],hst,h3,#[],by simp,by omega,?_,trivial⟩
    rw [List.filter_eq_self.2 (by simp)]
    exact h3
  · by_cases hq:q=w.heap.size
    · subst hq; simp at ho; subst ho; exact heap_alloc_new w _
    · simp [hq] at ho
      have:=hin' q o ho
      rw [heap_alloc_old w _ (lt_of_heap this)]
      exact this
  · by_cases hq':q=w.heap.size
    · exact .inr (by omega)
    · simp [hq'] at hq; exact .inl hq
theorem OpT_nextQ {r g i:Nat} {x:Operand} {es left:List (κ × Value)} {cur:Option (κ × Value)} (T:KeyT P kt enc ok) (ho:o.op = .next x false) (hx:evK K x=some (.pointer (some ⟨i,0,none⟩))) (hr:look L r=some (mapQ enc ok g es (some (i,left,cur))))
    (hend:left=[]→C (.tuple #[.bool false]) L) (hmore:∀ p l',p ∈ es→left.Perm (p::l')→C (.tuple #[.bool true,enc p.1,p.2]) ((r,mapQ enc ok g es (some (i,l',some p)))::L)):OpT P E n o K L C:=fun a w Kc Q hA hS hK=>by
  obtain ⟨h,q1,q2⟩:=hS.read hr
  obtain ⟨h1,b,clk,h2,hst,h3,seen,s1,s2,s3,_⟩:=q1
  have hg:=q2 _ _ h2
  have hi:=q2 _ _ s1
  rcases run_next_at (P:=P) w o.type i g clk clk seen b clk hi hg hst.1 (Nat.le_refl _) with ⟨h0,hrun⟩ | ⟨e,he,w1,hw1,hrun⟩
  · unfold Oper.wp execOp
    simp only [ho,hA.eval hx,Sem.run_bind,hrun,Result.andThen_ok,Sem.run_pure]
    refine hK _ _ _ (hend ?_) hS
    have:(b.toList.filter fun e=>!seen.contains e.born)=[]:=by
      unfold leftOf at h0
      have h0:(b.filter fun e=>!seen.contains e.born).toList.length=0:=by simpa using h0
      rw [Array.toList_filter] at h0
      exact List.length_eq_zero_iff.1 h0
    rw [this] at s3
    simp [ekv,kvs] at s3
    exact s3.symm ▸ rfl
  · have hel:e ∈ b.toList.filter fun e=>!seen.contains e.born:=by
      unfold leftOf at he
      rw [Array.toList_filter] at he
      exact he
    obtain ⟨l1,l2,hl⟩:=List.append_of_mem hel
    have hmem:=List.mem_filter.1 hel
    -- what is to come
    have hk:kvs enc left=ekv l1++(e.key,e.val)::ekv l2:=by rw [← s3,hl]; simp [ekv]
    obtain ⟨p1,p2,hp12,hp1,hp2⟩:=List.map_eq_append_iff.1 (show left.map (fun p=>(enc p.1,p.2))=ekv l1++(e.key,e.val)::ekv l2 from hk)
    obtain ⟨p,p3,hp3,hpe,hp4⟩:=List.map_eq_cons_iff.1 hp2
    subst hp3; subst hp12
    injection hpe with hpk hpv
    have hpes:∃ q ∈ es,enc q.1=e.key∧q.2=e.val:=by
      have:(e.key,e.val) ∈ kvs enc es:=by rw [← h3]; exact List.mem_map.2 ⟨e,hmem.1,rfl⟩
      obtain ⟨q,hq,hqe⟩:=List.mem_map.1 this
      injection hqe with e1 e2
      exact ⟨q,hq,e1,e2⟩
    have hfl:(b.toList.filter fun x=>!(seen.push e.born).contains x.born)=l1++l2:=by
      have hnd:(l1++e::l2).Pairwise (fun x y=>x.born≠y.born):=by
        rw [← hl]
        have:=hst.2.1
        rw [List.Nodup,List.pairwise_map] at this
        exact this.sublist List.filter_sublist
      have hff:(b.toList.filter fun x=>!(seen.push e.born).contains x.born)=(b.toList.filter fun e=>!seen.contains e.born).filter fun x=>!(x.born == e.born):=by
        rw [List.filter_filter]
        refine List.filter_congr fun x hx=>?_
        rw [contains_push]
        cases seen.contains x.born <;> cases x.born == e.born <;> rfl
      rw [hff,hl]
      rw [List.pairwise_append] at hnd
      obtain ⟨_,n2,n3⟩:=hnd
      have n2:=(List.pairwise_cons.1 n2).1
      rw [List.filter_append,List.filter_cons,List.filter_eq_self.2 (fun x hx=>by simpa using n3 x hx e (by simp)),List.filter_eq_self.2 (fun x hx=>by simpa using Ne.symm (n2 x hx))]
      simp
    unfold Oper.wp execOp
    simp only [ho,hA.eval hx,Sem.run_bind,hrun,Result.andThen_ok,Sem.run_pure]
    obtain ⟨q,hq1,hq2,hq3⟩:=hpes
    rw [← hpk,← hpv]
    have hpin:p ∈ es:=by
      have e1:=T.inj q.1 p.1 (by rw [hq2,hpk])
      have e2:q=p:=Prod.ext e1 (by rw [hq3,hpv])
      exact e2 ▸ hq1
    refine hK _ _ _ (hmore p (p1++p3) hpin List.perm_middle) (hS.step hr fun h' hp' hin'=>?_)
    obtain ⟨_,a2,clk2,i2,_,_,seen',i4,_⟩:=hp'
    have e2:=hin' _ _ i2
    have e3:=hin' _ _ i4
    rw [hg] at e2
    injection e2 with e2
    injection e2 with e21 e22
    subst e21; subst e22
    rw [hi] at e3
    injection e3 with e3
    injection e3 with _ _ e31 _
    subst e31
    have hi1:w1.heap[i]?=some (.mapIter (some g) clk seen clk):=by rcases hw1 with rfl | rfl <;> exact hi
    have hset:=MapKept.heap_set (o':=.mapIter (some g) clk (seen.push e.born) clk) hi1
    refine ⟨[i],fun q=>if q=i then some (.mapIter (some g) clk (seen.push e.born) clk) else h' q,by simp [i4],?_,?_,fun q o ho=>?_,fun q hq=>?_⟩
    · rcases hw1 with rfl | rfl
      · exact ⟨rfl,rfl,rfl,by simp [ChangeMaps.setBlock],fun k hk hkn=>hset.2 k (by simpa using hkn)⟩
      · exact ⟨rfl,rfl,rfl,by simp [ChangeMaps.setBlock],fun k hk hkn=>hset.2 k (by simpa using hkn)⟩
    · refine ⟨h1,b,clk,by simp [Ne.symm s2,i2],hst,h3,seen.push e.born,by simp,s2,?_,seen,e,hmem.1,rfl,by rw [hpk,hpv]⟩
      rw [hfl]
      show ekv (l1++l2)=kvs enc (p1++p3)
      rw [show kvs enc (p1++p3)=kvs enc p1++kvs enc p3 from List.map_append,show kvs enc p1=ekv l1 from hp1,show kvs enc p3=ekv l2 from hp4]
      exact List.map_append
    · by_cases hq:q=i
      · subst hq; simp at ho; subst ho; exact hset.1
      · simp [hq] at ho
        have:=hin' q o ho
        have hw1q:w1.heap[q]?=some o:=by rcases hw1 with rfl | rfl <;> exact this
        exact (hset.2 q hq).trans hw1q
    · by_cases hqi:q=i
      · subst hqi; exact .inl (by simp [i4])
      · simp [hqi] at hq; exact .inl hq
theorem Pu_entryQ {r g i:Nat} {x:Operand} {es left:List (κ × Value)} {p:κ × Value} (ho:o.op = .entry x) (hx:evK K x=some (.pointer (some ⟨i,0,none⟩))) (hr:look L r=some (mapQ enc ok g es (some (i,left,some p)))):Pure P E n o K L (.tuple #[enc p.1,p.2]):=fun a w hA hS=>by
  obtain ⟨h,q1,q2⟩:=hS.read hr
  obtain ⟨h1,b,clk,h2,hst,h3,seen,s1,s2,s3,seen0,e,he,hse,hep⟩:=q1
  subst hse
  have hrun:=run_entry_at (P:=P) w i g clk seen0 b clk e (q2 _ _ s1) (q2 _ _ h2) he hst.2.1
  injection hep with e1 e2
  simp only [execOp,ho,hA.eval hx,Sem.run_bind,hrun]
  rw [e1,e2]
  rfl
end
section
variable {P:Program} {kt bt:TypeId}
theorem findI_findG (k:List UInt8):∀ (es:List (List UInt8 × Value)) (i:Nat),findI k es i=findG k es i
  | [],_=>rfl
  | p::es,i=>by
    rw [findI,findG,findI_findG k es (i + 1)]
    by_cases h:k=p.1 <;> simp [h]
theorem idV_inj (a b:List UInt8) (h:idV a=idV b):a=b:=by
  unfold idV at h
  injection h with h
  have h:a.map bv=b.map bv:=by simpa [bs] using h
  refine List.map_inj_right (f:=bv) (fun x y hxy=>?_) |>.1 h
  unfold bv at hxy
  injection hxy with _ hxy
  exact UInt8.toNat_inj.1 (by omega)
theorem keyT_id (hk:P.underlying kt=some (.array 32 bt)) (hb:P.underlying bt=some (.int .u8)) (hsz:∀ w,(sizeOf bt).run P w = .ok 1 w):KeyT P kt idV (fun k=>k.length=32) where
  check em k w h:=run_checkId hk hb hsz em k h w
  find k w es a hl ho ha:=by
    rw [← findI_findG]
    exact run_findKeyId hk hb hsz k hl w es a (fun x hx=>by obtain ⟨p,hp,rfl⟩:=List.mem_map.1 hx; exact ho p hp) ha
  inj:=idV_inj
  stays k w:=by
    have:Instr.sameBits 10000 (idV k) (idV k)=true:=by
      rw [show (10000:Nat)=9999 + 1 from rfl,idV,Instr.sameBits]
      simp only [beq_self_eq_true,Bool.true_and,List.all_eq_true]
      intro p hp
      obtain ⟨x,y⟩:=p
      have hxy:=List.of_mem_zip hp
      have he:∀ (l:List Value) (p:Value × Value),p ∈ l.zip l→p.1=p.2:=by
        intro l
        induction l with
        | nil=>intro p hp; simp at hp
        | cons u l ih =>
          intro p hp
          rw [List.zip_cons_cons] at hp
          rcases List.mem_cons.1 hp with rfl | hp
          · rfl
          · exact ih p hp
      have:=he _ _ hp
      simp only at this
      subst this
      have:x ∈ bs k:=by simpa using hxy.1
      obtain ⟨u,hu,rfl⟩:=List.mem_map.1 this
      simp [bv,Instr.sameBits]
    simp [Instr.keyThatStays,this]
end
theorem evL_all {K:Slots} {a:Act} {n:Nat} (hA:Agr n K a):∀ {xs:List Operand} {vs:List Value},evL K xs=some vs→xs.map a.eval=vs
  | [],vs,h=>by simp [evL] at h; subst h; rfl
  | x::xs,vs,h=>by
    rw [evL] at h
    cases hx:evK K x with
    | none=>simp [hx] at h
    | some v =>
      cases hl:evL K xs with
      | none=>simp [hx,hl] at h
      | some l =>
        simp [hx,hl] at h
        subst h
        rw [List.map_cons,hA.eval hx,evL_all hA hl]
theorem Pu_makeFunc {P:Program} {E:Env} {n:Nat} {K:Slots} {L:Res} {o:Oper} {f:FuncId} {xs:List Operand} {vs:List Value} (ho:o.op = .makeFunc (.func f) #[] xs.toArray) (hx:evL K xs=some vs):Pure P E n o K L (.func (.func f) #[] vs.toArray):=fun a w hA hS=>by
  have:=evL_all hA hx
  simp only [execOp,ho]
  simp [this,Sem.run_bind,Instr.makeFunc,Result.andThen]
open Go.RowKit
def wideR (ro:Option Nat):Fence:={ Fence.wide with round:=ro }
theorem callsIn_wideR {ro:Option Nat} {m:Nat} {P:Program} {f:FuncId} {args:Array Value} {w:World} {R:Ending→World→Prop} (h:Calls P f args w R):CallsIn (wideR ro) m P f args w R:=callsIn_wide.2 h
theorem wpIn_of_wp {ro:Option Nat} {m:Nat} {P:Program} {o:Oper} {a:Act} {w:World} {next:Act→World→Prop} {Q:Exit→Act→World→Prop} (hnd:∀ c,o.op≠.defer c) (h:o.wp P a w next Q):o.wpIn (wideR ro) m P a w next Q:=by
  refine ⟨fun _ _=>trivial,?_⟩
  have hs:o.semAt (wideR ro).round a.eval=execOp a.eval o:=Oper.semAt_plain (wideR ro) _ _ hnd
  rw [hs]
  unfold Oper.wp at h
  generalize (execOp a.eval o).run P w=res at h ⊢
  cases res with
  | ok x w' =>
    cases x with
    | value v=>exact h
    | skip=>exact h
    | defer d=>exact h
    | enter f args=>exact ⟨fun hd=>by simp [wideR,Fence.wide] at hd,callsIn_wideR h⟩
    | row r args=>exact ⟨fun hd=>by simp [wideR,Fence.wide] at hd,fun c cs _=>let ⟨v,w',q,s⟩:=h c cs; ⟨v,w',q,stepsIn_wide.2 s⟩⟩
    | _=>exact h.elim
  | halt x w' =>
    cases x with
    | panic v=>exact h
    | _=>exact h.elim
section
variable (P:Program) (E:Env) (n:Nat) (ro:Option Nat)
def WLI (ops:Array Oper) (l:List Oper) (K:Slots) (L:Res) (Q:Exit→Act→World→Prop):Prop:=∀ a w,Agr n K a→Sat E L w→wpListIn (wideR ro) 0 P ops Q l a w
def WI (c:Code) (K:Slots) (L:Res) (Q:Exit→Act→World→Prop):Prop:=∀ a w,Agr n K a→Sat E L w→c.wpIn (wideR ro) 0 P Q a w
end
section
variable {P:Program} {E:Env} {n:Nat} {ro:Option Nat} {K:Slots} {L:Res} {Q:Exit→Act→World→Prop} {ops:Array Oper} {o:Oper} {rest:List Oper} {c:Code}
theorem WLI_nil (h:X E n Q .normal K L):WLI P E n ro ops [] K L Q:=h
theorem WLI_cons {d:Nat} (hnd:∀ c,o.op≠.defer c) (hg:o.guard=none) (hd:o.dst=some d) (hn:d < n) (h:OpT P E n o K L (fun v L'=>WLI P E n ro ops rest ((d,v)::K) L' Q)):WLI P E n ro ops (o::rest) K L Q :=
  fun a w hA hS=>wpListIn_plain hg fun Kc hK=>wpIn_of_wp hnd (h a w Kc Q hA hS fun v L' w' hC hS'=>hK _ _ (by rw [hd]; exact hC _ _ (hA.put hn v) hS'))
theorem WLI_cons0 (hnd:∀ c,o.op≠.defer c) (hg:o.guard=none) (hd:o.dst=none) (h:OpT P E n o K L (fun _ L'=>WLI P E n ro ops rest K L' Q)):WLI P E n ro ops (o::rest) K L Q :=
  fun a w hA hS=>wpListIn_plain hg fun Kc hK=>wpIn_of_wp hnd (h a w Kc Q hA hS fun v L' w' hC hS'=>hK _ _ (by rw [hd]; exact hC _ _ hA hS'))
theorem WI_regL {id:Nat} {l:List Oper} (h:WLI P E n ro l.toArray l K L Q):WI P E n ro (.region id l.toArray false) K L Q:=fun a w hA hS=>wpIn_region_lit (h a w hA hS)
theorem WI_open {α:Type} {φ:α→Prop} {Ps:α→List HP} (r b:Nat) {Pr:HP} (hr:look L r=some Pr) (hp:∀ h,Pr h→∃ x,φ x∧starL (Ps x) h) (k:∀ x,φ x→WI P E n ro c K (En b (Ps x)++(r,emp)::L) Q):WI P E n ro c K L Q:=fun a w hA hS=>by
  obtain ⟨x,hS2⟩:=hS.ex hr (Q:=fun x h=>φ x∧starL (Ps x) h) hp
  have hx:=hS2.get (look_same _ _ _) fun h hp=>hp.1
  have hS3:=hS2.split (b:=b) (Ps:=Ps x) (look_same _ _ _) fun h hp=>hp.2
  refine k x hx a w hA (hS3.sub fun r' P' h=>?_)
  rw [look_append] at h ⊢
  cases hl:look (En b (Ps x)) r' with
  | some X=>rw [hl] at h; exact h
  | none =>
    rw [hl] at h
    simp only [Option.none_or] at h ⊢
    by_cases hrr:r=r'
    · subst hrr; rw [look_same] at h ⊢; exact h
    · rw [look_other hrr] at h; rw [look_other hrr,look_other hrr]; exact h
theorem WI_block {id:Nat} (h:WI P E n ro c K L (Exit.inBlock id Q)):WI P E n ro (.block id c) K L Q:=fun a w hA hS=>wpIn_block (h a w hA hS)
theorem W_of_WI (h:WI P E n none c K L Q):W P E n c K L Q:=fun a w hA hS=>wpIn_wide.1 (h a w hA hS)
def RoundS (P:Program) {α:Type} (l:Nat) (enc:α→Value) (G:List α→HP) (N:Nat):Prop :=
  ∀ (E:Env) (F:HP) (pre:List α) (x:α) (w:World),pre.length < N→Sat E (En 0 [F,G pre]) w→YieldAt Fence.wide 0 P l #[enc x] w fun e w'=>e = .returned (.bool true)∧Sat E (En 0 [F,G (pre++[x])]) w'
theorem WLI_yield {α:Type} {l d N:Nat} {enc:α→Value} {G:List α→HP} (hround:RoundS P l enc G N) {pre:List α} {x:α} {X Y:Operand} {ts:Array TypeId} (hlen:pre.length < N)
    (hop:o.op = .call { callee:=.value X,args:=#[Y],argTypes:=ts }) (hX:evK K X=some (.func (.yield l) #[] #[])) (hY:evK K Y=some (enc x)) (hg:o.guard=none) (hd:o.dst=some d) (hn:d < n)
    (J:List Nat) {Js:List HP} (r b:Nat) (hJ:lookL L J=some Js) (hr:look L r=some (G pre)) (hnd:(J++[r]).Nodup) (hb:∀ j ∈ J,j < b)
    (k:WLI P E n none ops rest ((d,.bool true)::K) (En b [G (pre++[x])]++zipR J Js) Q):WLI P E n none ops (o::rest) K L Q:=fun a w hA hS=>wpListIn_plain hg fun Kc hK=>by
  have hS2:=hS.pack (.of hJ) (C:=[r]) (Cs:=[G pre]) ⟨hr,trivial⟩ hnd
  obtain ⟨fn,tmps,assign,body,hy,hR⟩:=hround E (starL Js) pre x w hlen hS2
  refine ⟨fun _ _=>trivial,?_⟩
  have hs:o.semAt (wideR none).round a.eval=execOp a.eval o:=rfl
  have hrun:(execOp a.eval o).run P w = .ok (.round l fn tmps assign body) w:=by
    simp [execOp,hop,resolve,hA.eval hX,hA.eval hY,invoke,Deferred.ofValue,Result.andThen,hy]
  rw [hs,hrun]
  refine ⟨fun hd=>by simp [wideR,Fence.wide] at hd,RoundIn.mono hR ?_⟩
  rintro e w' ⟨rfl,hS'⟩
  refine hK _ _ ?_
  rw [hd]
  exact k _ _ (hA.put hn _) (hS'.unpack b (by rw [List.nodup_append] at hnd; exact hnd.1) hb)
end
def objP (g:Nat) (o:Obj):HP:=fun h=>h g=some o
theorem Sat.obj {E:Env} {L:Res} {w:World} {r g:Nat} {o:Obj} (hS:Sat E L w) (hr:look L r=some (objP g o)):w.heap[g]?=some o:=by
  obtain ⟨h,q1,q2⟩:=hS.read hr
  exact q2 _ _ q1
theorem Sat.put {E:Env} {L:Res} {w:World} {r g:Nat} {o:Obj} (hS:Sat E L w) (hr:look L r=some (objP g o)) (o':Obj):Sat E ((r,objP g o')::L) (w.putObj g o') :=
  hS.step hr fun h hp hin=>by
    have hlt:=lt_of_heap (hin _ _ hp)
    refine ⟨[g],single g o',by simp [show h g=some o from hp],⟨rfl,rfl,rfl,by simp [World.putObj],fun k hk hm=>World.putObj_heap_other (by simpa using hm)⟩,single_same _ _,single_in (World.putObj_heap_same hlt),fun q hq=>.inl ?_⟩
    rw [single_dom hq,show h g=some o from hp]; rfl
theorem Sat.newObj {E:Env} {L:Res} {w:World} (hS:Sat E L w) (r:Nat) (o:Obj):Sat E ((r,objP w.heap.size o)::L) (w.alloc o) :=
  hS.new r ⟨rfl,rfl,rfl,by simp,fun k hk _=>heap_alloc_old w _ hk⟩ (single w.heap.size o) (single_same _ _) (single_in (heap_alloc_new w o)) (fun q hq=>by rw [single_dom hq]; exact Nat.le_refl _)
theorem LookAll.same {L L':Res}:∀ {J:List Nat} {Js:List HP},LookAll L J Js→(∀ j ∈ J,look L' j=look L j)→LookAll L' J Js
  | [],[],_,_=>trivial
  | [],_::_,h,_=>h
  | _::_,[],h,_=>h
  | j::J,P::Js,h,hs=>⟨(hs j (by simp)).trans h.1,h.2.same fun j' hj=>hs j' (by simp [hj])⟩
theorem LookAll.append {L:Res}:∀ {J J':List Nat} {Js Js':List HP},LookAll L J Js→LookAll L J' Js'→LookAll L (J++J') (Js++Js')
  | [],_,[],_,_,h=>h
  | [],_,_::_,_,h,_=>h.elim
  | _::_,_,[],_,h,_=>h.elim
  | j::J,_,P::Js,_,h,h'=>⟨h.1,h.2.append h'⟩
def AgrD (ds:List Deferred) (n:Nat) (K:Slots) (a:Act):Prop:=a.defers=ds∧a.tmps.size=n∧∀ k v,look K k=some v→a.tmps[k]?=some v
theorem AgrD.clear {ds:List Deferred} {n:Nat} {K:Slots} {a:Act} (h:AgrD ds n K a):Agr n K { a with defers:=[] }:=⟨rfl,h.2.1,h.2.2⟩
theorem AgrD.put {ds:List Deferred} {n:Nat} {K:Slots} {a:Act} (h:AgrD ds n K a) {d:Nat} (hd:d < n) (v:Value):AgrD ds n ((d,v)::K) (a.put (some d) v):=by
  have:=h.clear.put hd v
  exact ⟨h.1,this.2.1,this.2.2⟩
section
variable (P:Program) (E:Env) (n:Nat) (ds:List Deferred)
def WD (c:Code) (K:Slots) (L:Res) (Q:Exit→Act→World→Prop):Prop:=∀ a w,AgrD ds n K a→Sat E L w→Code.wp P c Q a w
def WLD (ops:Array Oper) (l:List Oper) (K:Slots) (L:Res) (Q:Exit→Act→World→Prop):Prop:=∀ a w,AgrD ds n K a→Sat E L w→wpList P ops Q l a w
def XD (Q:Exit→Act→World→Prop) (e:Exit) (K:Slots) (L:Res):Prop:=∀ a w,AgrD ds n K a→Sat E L w→Q e a w
end
section
variable {P:Program} {E:Env} {n:Nat} {ds:List Deferred} {K K':Slots} {L L':Res} {Q:Exit→Act→World→Prop} {ops:Array Oper} {o:Oper} {rest:List Oper} {c x y:Code}
theorem WD_seq (h:WD P E n ds x K L (Exit.then (y.wp P Q) Q)):WD P E n ds (.seq x y) K L Q:=fun a w hA hS=>wp_seq (h a w hA hS)
theorem XD_then (h:WD P E n ds y K L Q):XD E n ds (Exit.then (y.wp P Q) Q) .normal K L:=h
theorem XD_block {id:Nat} (h:XD E n ds Q .normal K L):XD E n ds (Exit.inBlock id Q) .normal K L:=h
theorem WD_ret (h:XD E n ds Q .ret K L):WD P E n ds .ret K L Q:=fun a w hA hS=>wp_ret (h a w hA hS)
theorem Dr9 {id:Nat} {l:List Oper} (h:WLD P E n ds l.toArray l K L Q):WD P E n ds (.region id l.toArray false) K L Q:=fun a w hA hS=>wp_region_lit (h a w hA hS)
theorem WLD_nil (h:XD E n ds Q .normal K L):WLD P E n ds ops [] K L Q:=h
theorem Dp9 {d:Nat} {v:Value} (hg:o.guard=none) (hd:o.dst=some d) (hn:d < n) (h:Pure P E n o K L v) (k:WLD P E n ds ops rest ((d,v)::K) L Q):WLD P E n ds ops (o::rest) K L Q :=
  fun a w hA hS=>wpList_plain hg fun Kc hK=>by
    have hev:({ a with defers:=[] }:Act).eval=a.eval:=by funext x; cases x <;> rfl
    have hrun:(execOp a.eval o).run P w = .ok (.value v) w:=by rw [← hev]; exact h { a with defers:=[] } w hA.clear hS
    unfold Oper.wp
    rw [hrun]
    exact hK _ _ (by rw [hd]; exact k _ _ (hA.put hn v) hS)
theorem WD.pre (h:WD P E n ds c K' L' Q) (hK:AllIn K K') (hL:AllIn L L'):WD P E n ds c K L Q:=fun a w hA hS=>h a w ⟨hA.1,hA.2.1,fun k v hk=>hA.2.2 k v (hK.look k v hk)⟩ (hS.sub hL.look)
end
theorem W_open {P:Program} {E:Env} {n:Nat} {K:Slots} {L:Res} {Q:Exit→Act→World→Prop} {c:Code} {α:Type} {φ:α→Prop} {Ps:α→List HP} (r b:Nat) {Pr:HP} (hr:look L r=some Pr) (hp:∀ h,Pr h→∃ x,φ x∧starL (Ps x) h) (k:∀ x,φ x→W P E n c K (En b (Ps x)++(r,emp)::L) Q):W P E n c K L Q:=fun a w hA hS=>by
  obtain ⟨x,hS2⟩:=hS.ex hr (Q:=fun x h=>φ x∧starL (Ps x) h) hp
  have hx:=hS2.get (look_same _ _ _) fun h hp=>hp.1
  have hS3:=hS2.split (b:=b) (Ps:=Ps x) (look_same _ _ _) fun h hp=>hp.2
  refine k x hx a w hA (hS3.sub fun r' P' h=>?_)
  rw [look_append] at h ⊢
  cases hl:look (En b (Ps x)) r' with
  | some X=>rw [hl] at h; exact h
  | none =>
    rw [hl] at h
    simp only [Option.none_or] at h ⊢
    by_cases hrr:r=r'
    · subst hrr; rw [look_same] at h ⊢; exact h
    · rw [look_other hrr] at h; rw [look_other hrr,look_other hrr]; exact h
def SeqS (P:Program) {α:Type} (gf:FuncId) (lb:Array Value) (enc:α→Value) (N:Nat) (F:HP) (Cs:List HP) (S:List α→Prop) (Cs':List HP):Prop :=
  ∀ (l:Nat) (G:List α→HP),RoundS P l enc G N→CallsS P gf (#[.func (.yield l) #[] #[]]++lb) F (G []::Cs) (fun v Ps=>∃ xs,S xs∧Ps=G xs::Cs')
theorem callsS_marks {P:Program} {n:Nat} {f:FuncId} {fn:Func} {c:Code} {args:Array Value} {F:HP} {Ps:List HP} {R:Value→List HP→Prop}
    (hf:P.funcs[f]?=some fn) (hb:fn.body=some c) (hn:fn.ntmps=n) (ha:args.size≤n)
    (h:∀ E,W P E n c (enumK 0 args.toList) (En 0 (F::Ps)) (bodyPostM Fence.wide 0 P fn (Ret E F R))):CallsS P f args F Ps R:=by
  intro E w hS
  refine callsIn_wide.1 (callsIn_of_wp_marks (n:=0) hf hb trivial (wpIn_wide.2 (h E _ w ⟨rfl,by simp [hn]; omega,fun k v hk=>?_⟩ hS)))
  obtain ⟨_,h2⟩:=look_enumK _ _ _ _ hk
  have hlt:k < args.size:=by simpa using (List.getElem?_eq_some_iff.1 h2).1
  rw [Array.getElem?_append_left hlt]
  simpa using h2
section
variable {P:Program} {E:Env} {n:Nat} {K:Slots} {L:Res} {Q:Exit→Act→World→Prop}
end
open Go.RowKit
def chV (size k n j:Nat) (A:Option Addr):Value:=.slice (if j * k + min k (n - j * k)=j * k then A else A.map (·.add (j * k * size))) (j * k + min k (n - j * k) - j * k) (j * k + min k (n - j * k) - j * k)
def chN (k n j:Nat):Nat:=min k (n - j * k)
theorem chV_rd {size k n j c:Nat} {A:Option Addr} {xs:List Value} {h:Hlt} (hr:rdP size (.slice A n c) n xs h) (hj:j * k < n) (hk:0 < k):rdP size (chV size k n j A) (chN k n j) ((xs.drop (j * k * size)).take (chN k n j * size)) h:=by
  have hm:j * k + chN k n j≤n:=by unfold chN; omega
  have h1:=rdP_sub (a:=j * k) (b:=j * k + chN k n j) hr (by omega) hm
  rw [show j * k + chN k n j - j * k=chN k n j by omega] at h1
  obtain ⟨h2,A2,c2,h3,h4,h5,h6⟩:=h1
  obtain ⟨_,A0,c0,h7,h8,h9,_⟩:=hr
  injection h7 with h7a h7b h7c
  subst h7a; subst h7c
  unfold subV at h3
  injection h3 with h3a h3b h3c
  have hc:¬ c=j * k:=by omega
  rw [if_neg hc] at h3a
  have hn:¬ j * k + min k (n - j * k)=j * k:=by omega
  refine ⟨h2,A2,chN k n j,?_,Nat.le_refl _,fun hA=>?_,h6⟩
  · unfold chV
    rw [if_neg hn,h3a]
    unfold chN
    rw [show j * k + min k (n - j * k) - j * k=min k (n - j * k) by omega]
  · exfalso
    rw [hA] at h3a
    have:A=none:=by cases A with
      | none=>rfl
      | some a=>cases h3a
    have:=h9 this
    omega
section
variable {P:Program} {E:Env} {n:Nat} {K:Slots} {L:Res} {o:Oper}
theorem Pu_sliceLoV {t e size m c a:Nat} {A:Option Addr} {x lo:Operand} {kd:IntKind} {i:Int} (ho:o.op = .slice t x (some lo) none none) (hu:∀ w,(underlying t).run P w = .ok (.slice e) w) (hs:∀ w,(sizeOf e).run P w = .ok size w)
    (hx:evK K x=some (.slice A m c)) (hlo:evK K lo=some (.int kd i)) (hi:i=(a:Int)) (hab:a≤m) (hmc:m≤c):Pure P E n o K L (subV size (.slice A m c) a m):=fun ac w hA hS=>by
  have:=run_slice_sub (P:=P) w (v:=.slice A m c) rfl hu hs (lo:=some (ac.eval lo)) (hi:=none) (a:=a) (b:=m) (.inr ⟨kd,i,by rw [hA.eval hlo],hi⟩) (.inl ⟨rfl,rfl⟩) hab hmc
  simp only [execOp,ho,hA.eval hx,Option.map_some,Option.map_none,Sem.run_bind,this,Result.andThen_ok,Sem.run_pure]
theorem Pu_slice3V {t e size m c a b:Nat} {A:Option Addr} {x lo hi mx:Operand} {kl kh km:IntKind} {il ih im:Int} (ho:o.op = .slice t x (some lo) (some hi) (some mx)) (hu:∀ w,(underlying t).run P w = .ok (.slice e) w) (hs:∀ w,(sizeOf e).run P w = .ok size w)
    (hx:evK K x=some (.slice A m c)) (hlo:evK K lo=some (.int kl il)) (hhi:evK K hi=some (.int kh ih)) (hmx:evK K mx=some (.int km im)) (h1:il=(a:Int)) (h2:ih=(b:Int)) (h3:im=(b:Int)) (hab:a≤b) (hbm:b≤m) (hmc:m≤c) :
    Pure P E n o K L (.slice (if b=a then A else A.map (·.add (a * size))) (b - a) (b - a)):=fun ac w hA hS=>by
  subst h1; subst h2; subst h3
  have sb:∀ (k:IntKind) (a y:Nat) (code:BoundsCode),a≤y→(Instr.sliceBound (.int k (a:Int)) y code).run P w = .ok a w:=by
    intro k a y code h
    simp only [Instr.sliceBound,asIntOf,Sem.run_bind,Sem.run_pure,Result.andThen_ok]
    rw [if_pos (by omega)]
    simp
  simp only [execOp,ho,hA.eval hx,Option.map_some,hA.eval hlo,hA.eval hhi,hA.eval hmx,Sem.run_bind,Instr.sliceAt]
  unfold Instr.slice
  simp only [Sem.run_bind,hu,Result.andThen_ok,hs,Sem.run_pure]
  unfold Instr.sliceBounds
  simp only [Sem.run_bind,Sem.run_pure,Result.andThen_ok,sb _ _ _ _ (show b≤c by omega),sb _ _ _ _ (Nat.le_refl b),sb _ _ _ _ hab,if_true,Bool.false_eq_true,if_false,Option.isSome_none,Option.isSome_some]
end
open Go.RowKit
set_option maxRecDepth 8000
theorem Pu_min {P:Program} {E:Env} {n:Nat} {K:Slots} {L:Res} {o:Oper} {x y:Operand} {ts:Array TypeId} {a b:Int} (ho:o.op = .call { callee:=.builtin .min,args:=#[x,y],argTypes:=ts }) (hx:evK K x=some (.int .i64 a)) (hy:evK K y=some (.int .i64 b)):Pure P E n o K L (.int .i64 (min a b)):=fun c w hA hS=>by
  have:(if b < a then b else a)=min a b:=by simp only [Int.min_def]; split <;> split <;> omega
  simp only [execOp,ho,resolve,invoke,builtin,Sem.run_bind,Sem.run_pure,Result.andThen_ok,List.map_toArray,List.map_cons,List.map_nil,hA.eval hx,hA.eval hy]
  simp [Builtin.min_,Builtin.min2,this,Result.andThen]
theorem chunkB_seq (b1 b2 n c:Nat) (A:Option Addr) (hnc:n≤c) (hn:n≤1000000000) (F:HP):SeqS Tryz.prog 127 #[.pointer (some ⟨b1,0,none⟩),.pointer (some ⟨b2,0,none⟩)] (fun j:{j:Nat // j * 64 < n}=>chV 1 64 n j.1 A) (n + 1) F [blk b1 36 [.slice A n c],blk b2 3 [.int .i64 64]] (fun xs=>xs.map (·.1)=List.range xs.length∧n≤xs.length * 64∧((xs.length - 1) * 64 < n∨xs.length=0)) [blk b1 36 [.slice A n c],blk b2 3 [.int .i64 64]]:=by
 intro ln G hround
 refine callsS_enter Tryz.func127 rfl Tryz.ntmps127 (by simp) (fun E=>?_)
 refine Q9 (R9 (G9 rfl rfl (N9 (X9 ?_))))
 refine W_block ?_
 refine W_loop (α:=List {j:Nat // j * 64 < n}) (fun x=>[(0,.func (.yield ln) #[] #[]),(1,.pointer (some ⟨b1,0,none⟩)),(2,.pointer (some ⟨b2,0,none⟩)),(4,.int .i64 ((x.length * 64:Nat):Int))]) (fun x=>[(0,F),(1,G x),(2,blk b1 36 [.slice A n c]),(3,blk b2 3 [.int .i64 64])]) (fun x=>x.map (·.1)=List.range x.length∧((x.length - 1) * 64 < n∨x.length=0)) (fun x=>n + 1 - x.length) ([]) ⟨rfl,.inr rfl⟩ (a9 rfl) (a9 rfl) (fun x hx=>?_)
 obtain ⟨hx1,hx2⟩:=hx
 refine Q9 (Q9 (R9 (M9 rfl rfl (L9 rfl (Pb9 (r:=2) rfl Tryz.isAgg36 rfl rfl rfl) (L9 rfl (Pu_lenK rfl Tryz.runUnderlying36 rfl) (L9 rfl (Pn9 rfl rfl rfl (run_lss _ _ _ _ _ _)) (N9 (X9 ?_))))))))
 refine C9 rfl (fun hc9=>?_) (fun hc9=>?_)
 ·
  have hlt:x.length * 64 < n:=by have:=of_decide_eq_true hc9; omega
  refine K9 (X9 ?_)
  refine Q9 ?_
  refine W_block ?_
  refine Q9 ?_
  refine W_draw (N:=7) (by kernel_rfl) rfl [(0,_),(2,_),(3,_)] ⟨rfl,rfl,rfl,trivial⟩ ?_
  refine (T9 0 rfl rfl (Pb9 (r:=3) rfl Tryz.isAgg3 rfl rfl rfl) (T9 1 rfl rfl (Pb9 (r:=2) rfl Tryz.isAgg36 rfl rfl rfl) (T9 2 rfl rfl (Pm9 rfl rfl) (T9 3 rfl rfl (Pu_sliceLoV (a:=x.length * 64) rfl Tryz.runUnderlying36 Tryz.sizeOf5 rfl rfl rfl (by omega) hnc) (T9 4 rfl rfl (Pu_lenK rfl Tryz.runUnderlying36 rfl) (T9 5 rfl rfl (Pu_min rfl rfl rfl) (T9 6 rfl rfl (Pg9 rfl rfl) (Ad9 (by kernel_rfl) (X9 ?_)))))))))
  refine Q9 ?_
  obtain ⟨m,hm⟩:∃ m:Nat,m=min 64 (n - x.length * 64):=⟨_,rfl⟩
  rw [show min (64:Int) (((n - x.length * 64:Nat)):Int)=(m:Int) by omega]
  refine W_of_WI (WI_regL ?_)
  refine WLI_cons (by intro c h; cases h) rfl rfl (by decide) (Or9 (Pm9 rfl rfl) ?_)
  refine WLI_cons (by intro c h; cases h) rfl rfl (by decide) (Or9 (Pb9 (r:=2) rfl Tryz.isAgg36 rfl rfl rfl) ?_)
  refine WLI_cons (by intro c h; cases h) rfl rfl (by decide) (Or9 (Pm9 rfl rfl) ?_)
  refine WLI_cons (by intro c h; cases h) rfl rfl (by decide) (Or9 (Pm9 rfl rfl) ?_)
  refine WLI_cons (by intro c h; cases h) rfl rfl (by decide) (Or9 (Pm9 rfl rfl) ?_)
  refine WLI_cons (by intro c h; cases h) rfl rfl (by decide) (Or9 (Pn9 rfl rfl rfl (run_add _ _ _ _ _ (by omega))) ?_)
  refine WLI_cons (by intro c h; cases h) rfl rfl (by decide) (Or9 (Pm9 rfl rfl) ?_)
  refine WLI_cons (by intro c h; cases h) rfl rfl (by decide) (Or9 (Pm9 rfl rfl) ?_)
  refine WLI_cons (by intro c h; cases h) rfl rfl (by decide) (Or9 (Pn9 rfl rfl rfl (run_add _ _ _ _ _ (by omega))) ?_)
  refine WLI_cons (by intro c h; cases h) rfl rfl (by decide) (Or9 (Pu_slice3V (a:=x.length * 64) (b:=x.length * 64 + m) rfl Tryz.runUnderlying36 Tryz.sizeOf5 rfl rfl rfl rfl rfl (by omega) (by omega) (by omega) (by omega) hnc) ?_)
  subst hm
  refine WLI_yield hround (pre:=x) (x:=⟨x.length,hlt⟩) (by omega) rfl rfl rfl rfl rfl (by decide) [0,2,3] 1 900 rfl rfl (by decide) (by decide) ?_
  refine WLI_cons (by intro c h; cases h) rfl rfl (by decide) (Or9 (Pu_un rfl rfl (run_not _)) ?_)
  refine WLI_nil ?_
  refine (X9 ?_)
  refine W_false rfl (rfl) ?_
  refine K9 (X_block (X9 ?_))
  refine R9 (M9 rfl rfl (L9 rfl (Pb9 (r:=3) rfl Tryz.isAgg3 rfl rfl rfl) (L9 rfl (Pn9 rfl rfl rfl (run_add _ _ _ _ _ (by omega))) (G9 rfl rfl (N9 ?_)))))
  refine X_ren 900 1 rfl ?_
  exact Xr9 (x++[⟨x.length,hlt⟩]) ⟨by rw [List.map_append,List.length_append,hx1,List.map_cons,List.map_nil]; exact (List.range_succ).symm,by rw [List.length_append]; show (x.length + 1 - 1) * 64 < n∨_; left; simpa using hlt⟩ (by show n + 1 - (x++[_]).length < n + 1 - x.length; rw [List.length_append,List.length_singleton]; omega) ⟨rfl,rfl,rfl,lookV_eq rfl (int_eq (by rw [List.length_append,List.length_singleton]; omega)),trivial⟩ ⟨rfl,rfl,rfl,rfl,trivial⟩
 ·
  have hge:n≤x.length * 64:=by have:=of_decide_eq_false hc9; omega
  refine W_exit (X_then_exit (X_then_exit (X_block_exit ?_)))
  exact Xe9 [1,2,3] (Ps:=[_,_,_]) (res0 Tryz.results127) rfl (by decide) ⟨x,⟨hx1,hge,hx2⟩,rfl⟩
theorem chunkB_spec (v:Value) (hv:v.cells = #[v]) (F:HP):CallsS Tryz.prog 91 #[v,.int .i64 64] F [] (fun r Ps=>∃ b1 b2,r = .func (.func 127) #[] #[.pointer (some ⟨b1,0,none⟩),.pointer (some ⟨b2,0,none⟩)]∧Ps=[blk b1 36 [v],blk b2 3 [.int .i64 64]]):=by
 refine callsS_enter Tryz.func91 rfl Tryz.ntmps91 (by simp) (fun E=>?_)
 refine Q9 (R9 (Lc9 rfl rfl (by decide) (OpT_box (r:=101) rfl rfl (show v.cells=[v].toArray from hv) (fun g101=>(Lc9 rfl rfl (by decide) (OpT_box (r:=102) rfl rfl rfl (fun g102=>(G9 rfl rfl (N9 (X9 (Q9 (Q9 (R9 (L9 rfl (Pb9 (r:=102) rfl Tryz.isAgg3 rfl rfl rfl) (L9 rfl (Pn9 rfl rfl rfl (run_lss _ _ _ _ _ _)) (N9 (X9 ?_)))))))))))))))))
 refine W_false rfl (rfl) ?_
 refine K9 (X9 ?_)
 refine Q9 (R9 (L9 rfl (Pu_makeFunc rfl rfl) (G9 rfl rfl (N9 (X9 ?_)))))
 refine W_ret ?_
 exact Xq9 [101,102] (Ps:=[_,_]) (res1 Tryz.results91 rfl) rfl (by decide) ⟨_,_,rfl,rfl⟩
theorem chunkI_seq (b1 b2 n c:Nat) (A:Option Addr) (hnc:n≤c) (hn:n≤1000000000) (F:HP):SeqS Tryz.prog 128 #[.pointer (some ⟨b1,0,none⟩),.pointer (some ⟨b2,0,none⟩)] (fun j:{j:Nat // j * 8 < n}=>chV 32 8 n j.1 A) (n + 1) F [blk b1 165 [.slice A n c],blk b2 3 [.int .i64 8]] (fun xs=>xs.map (·.1)=List.range xs.length∧n≤xs.length * 8∧((xs.length - 1) * 8 < n∨xs.length=0)) [blk b1 165 [.slice A n c],blk b2 3 [.int .i64 8]]:=by
 intro ln G hround
 refine callsS_enter Tryz.func128 rfl Tryz.ntmps128 (by simp) (fun E=>?_)
 refine Q9 (R9 (G9 rfl rfl (N9 (X9 ?_))))
 refine W_block ?_
 refine W_loop (α:=List {j:Nat // j * 8 < n}) (fun x=>[(0,.func (.yield ln) #[] #[]),(1,.pointer (some ⟨b1,0,none⟩)),(2,.pointer (some ⟨b2,0,none⟩)),(4,.int .i64 ((x.length * 8:Nat):Int))]) (fun x=>[(0,F),(1,G x),(2,blk b1 165 [.slice A n c]),(3,blk b2 3 [.int .i64 8])]) (fun x=>x.map (·.1)=List.range x.length∧((x.length - 1) * 8 < n∨x.length=0)) (fun x=>n + 1 - x.length) ([]) ⟨rfl,.inr rfl⟩ (a9 rfl) (a9 rfl) (fun x hx=>?_)
 obtain ⟨hx1,hx2⟩:=hx
 refine Q9 (Q9 (R9 (M9 rfl rfl (L9 rfl (Pb9 (r:=2) rfl Tryz.isAgg165 rfl rfl rfl) (L9 rfl (Pu_lenK rfl Tryz.runUnderlying165 rfl) (L9 rfl (Pn9 rfl rfl rfl (run_lss _ _ _ _ _ _)) (N9 (X9 ?_))))))))
 refine C9 rfl (fun hc9=>?_) (fun hc9=>?_)
 ·
  have hlt:x.length * 8 < n:=by have:=of_decide_eq_true hc9; omega
  refine K9 (X9 ?_)
  refine Q9 ?_
  refine W_block ?_
  refine Q9 ?_
  refine W_draw (N:=7) (by kernel_rfl) rfl [(0,_),(2,_),(3,_)] ⟨rfl,rfl,rfl,trivial⟩ ?_
  refine (T9 0 rfl rfl (Pb9 (r:=3) rfl Tryz.isAgg3 rfl rfl rfl) (T9 1 rfl rfl (Pb9 (r:=2) rfl Tryz.isAgg165 rfl rfl rfl) (T9 2 rfl rfl (Pm9 rfl rfl) (T9 3 rfl rfl (Pu_sliceLoV (a:=x.length * 8) rfl Tryz.runUnderlying165 Tryz.sizeOf29 rfl rfl rfl (by omega) hnc) (T9 4 rfl rfl (Pu_lenK rfl Tryz.runUnderlying165 rfl) (T9 5 rfl rfl (Pu_min rfl rfl rfl) (T9 6 rfl rfl (Pg9 rfl rfl) (Ad9 (by kernel_rfl) (X9 ?_)))))))))
  refine Q9 ?_
  obtain ⟨m,hm⟩:∃ m:Nat,m=min 8 (n - x.length * 8):=⟨_,rfl⟩
  rw [show min (8:Int) (((n - x.length * 8:Nat)):Int)=(m:Int) by omega]
  refine W_of_WI (WI_regL ?_)
  refine WLI_cons (by intro c h; cases h) rfl rfl (by decide) (Or9 (Pm9 rfl rfl) ?_)
  refine WLI_cons (by intro c h; cases h) rfl rfl (by decide) (Or9 (Pb9 (r:=2) rfl Tryz.isAgg165 rfl rfl rfl) ?_)
  refine WLI_cons (by intro c h; cases h) rfl rfl (by decide) (Or9 (Pm9 rfl rfl) ?_)
  refine WLI_cons (by intro c h; cases h) rfl rfl (by decide) (Or9 (Pm9 rfl rfl) ?_)
  refine WLI_cons (by intro c h; cases h) rfl rfl (by decide) (Or9 (Pm9 rfl rfl) ?_)
  refine WLI_cons (by intro c h; cases h) rfl rfl (by decide) (Or9 (Pn9 rfl rfl rfl (run_add _ _ _ _ _ (by omega))) ?_)
  refine WLI_cons (by intro c h; cases h) rfl rfl (by decide) (Or9 (Pm9 rfl rfl) ?_)
  refine WLI_cons (by intro c h; cases h) rfl rfl (by decide) (Or9 (Pm9 rfl rfl) ?_)
  refine WLI_cons (by intro c h; cases h) rfl rfl (by decide) (Or9 (Pn9 rfl rfl rfl (run_add _ _ _ _ _ (by omega))) ?_)
  refine WLI_cons (by intro c h; cases h) rfl rfl (by decide) (Or9 (Pu_slice3V (a:=x.length * 8) (b:=x.length * 8 + m) rfl Tryz.runUnderlying165 Tryz.sizeOf29 rfl rfl rfl rfl rfl (by omega) (by omega) (by omega) (by omega) hnc) ?_)
  subst hm
  refine WLI_yield hround (pre:=x) (x:=⟨x.length,hlt⟩) (by omega) rfl rfl rfl rfl rfl (by decide) [0,2,3] 1 900 rfl rfl (by decide) (by decide) ?_
  refine WLI_cons (by intro c h; cases h) rfl rfl (by decide) (Or9 (Pu_un rfl rfl (run_not _)) ?_)
  refine WLI_nil ?_
  refine (X9 ?_)
  refine W_false rfl (rfl) ?_
  refine K9 (X_block (X9 ?_))
  refine R9 (M9 rfl rfl (L9 rfl (Pb9 (r:=3) rfl Tryz.isAgg3 rfl rfl rfl) (L9 rfl (Pn9 rfl rfl rfl (run_add _ _ _ _ _ (by omega))) (G9 rfl rfl (N9 ?_)))))
  refine X_ren 900 1 rfl ?_
  exact Xr9 (x++[⟨x.length,hlt⟩]) ⟨by rw [List.map_append,List.length_append,hx1,List.map_cons,List.map_nil]; exact (List.range_succ).symm,by rw [List.length_append]; show (x.length + 1 - 1) * 8 < n∨_; left; simpa using hlt⟩ (by show n + 1 - (x++[_]).length < n + 1 - x.length; rw [List.length_append,List.length_singleton]; omega) ⟨rfl,rfl,rfl,lookV_eq rfl (int_eq (by rw [List.length_append,List.length_singleton]; omega)),trivial⟩ ⟨rfl,rfl,rfl,rfl,trivial⟩
 ·
  have hge:n≤x.length * 8:=by have:=of_decide_eq_false hc9; omega
  refine W_exit (X_then_exit (X_then_exit (X_block_exit ?_)))
  exact Xe9 [1,2,3] (Ps:=[_,_,_]) (res0 Tryz.results128) rfl (by decide) ⟨x,⟨hx1,hge,hx2⟩,rfl⟩
theorem chunkI_spec (v:Value) (hv:v.cells = #[v]) (F:HP):CallsS Tryz.prog 93 #[v,.int .i64 8] F [] (fun r Ps=>∃ b1 b2,r = .func (.func 128) #[] #[.pointer (some ⟨b1,0,none⟩),.pointer (some ⟨b2,0,none⟩)]∧Ps=[blk b1 165 [v],blk b2 3 [.int .i64 8]]):=by
 refine callsS_enter Tryz.func93 rfl Tryz.ntmps93 (by simp) (fun E=>?_)
 refine Q9 (R9 (Lc9 rfl rfl (by decide) (OpT_box (r:=101) rfl rfl (show v.cells=[v].toArray from hv) (fun g101=>(Lc9 rfl rfl (by decide) (OpT_box (r:=102) rfl rfl rfl (fun g102=>(G9 rfl rfl (N9 (X9 (Q9 (Q9 (R9 (L9 rfl (Pb9 (r:=102) rfl Tryz.isAgg3 rfl rfl rfl) (L9 rfl (Pn9 rfl rfl rfl (run_lss _ _ _ _ _ _)) (N9 (X9 ?_)))))))))))))))))
 refine W_false rfl (rfl) ?_
 refine K9 (X9 ?_)
 refine Q9 (R9 (L9 rfl (Pu_makeFunc rfl rfl) (G9 rfl rfl (N9 (X9 ?_)))))
 refine W_ret ?_
 exact Xq9 [101,102] (Ps:=[_,_]) (res1 Tryz.results93 rfl) rfl (by decide) ⟨_,_,rfl,rfl⟩
open Go.RowKit
section
variable {P:Program} {E:Env} {n:Nat} {K:Slots} {L:Res} {o:Oper} {C:Value→Res→Prop}
section
variable {κ:Type} [DecidableEq κ] {kt mt et:TypeId} {enc:κ→Value} {ok:κ→Prop}
def putQ (k:κ) (v:Value) (es:List (κ × Value)):List (κ × Value):=if (lookQ k es).isSome then setQ k v es else es++[(k,v)]
theorem lookQ_set (k:κ) (v:Value):∀ (es:List (κ × Value)) (j:κ),lookQ j (setQ k v es)=if j=k∧(lookQ k es).isSome then some v else lookQ j es
  | [],j=>by simp [setQ,lookQ]
  | p::es,j=>by
    rw [setQ]
    by_cases hk:k=p.1
    · rw [if_pos hk,lookQ,lookQ,lookQ,if_pos hk]
      by_cases hj:j=k
      · simp [hj]
      · simp [hj,hk ▸ hj]
    · rw [if_neg hk,lookQ,lookQ_set k v es j,lookQ,lookQ,if_neg hk]
      by_cases hj:j=p.1
      · have:j≠k:=fun h=>hk (h ▸ hj)
        simp [hj,this,show p.1≠k from fun h=>hk h.symm]
      · simp [hj]
theorem lookQ_app (k:κ) (v:Value):∀ (es:List (κ × Value)) (j:κ),lookQ j (es++[(k,v)])=(lookQ j es).or (if j=k then some v else none)
  | [],j=>by simp [lookQ]
  | p::es,j=>by
    rw [List.cons_append,lookQ,lookQ,lookQ_app k v es j]
    by_cases hj:j=p.1 <;> simp [hj]
theorem lookQ_put (k:κ) (v:Value) (es:List (κ × Value)) (j:κ):lookQ j (putQ k v es)=if j=k then some v else lookQ j es:=by
  unfold putQ
  cases h:(lookQ k es).isSome with
  | true=>rw [if_pos rfl,lookQ_set]; simp [h]
  | false =>
    rw [if_neg (by simp),lookQ_app]
    by_cases hj:j=k
    · subst hj
      rw [if_pos rfl,if_pos rfl,Option.isSome_eq_false_iff.1 h |> Option.isNone_iff_eq_none.1]
      rfl
    · rw [if_neg hj,if_neg hj,Option.or_none]
theorem OpT_mapPutQ {r g:Nat} {x y z:Operand} {k:κ} {v:Value} {es:List (κ × Value)} (T:KeyT P kt enc ok) (ho:o.op = .mapUpdate mt x y z) (hm:P.underlying mt=some (.map kt et))
    (hx:evK K x=some (.map (some g))) (hy:evK K y=some (enc k)) (hl:ok k) (hz:evK K z=some v) (hr:look L r=some (mapQ enc ok g es none)) (hc:C undef ((r,mapQ enc ok g (putQ k v es) none)::L)):OpT P E n o K L C:=by
  unfold putQ at hc
  cases h:(lookQ k es).isSome with
  | true=>rw [h] at hc; exact OpT_mapSetQ T ho hm hx hy hl hz hr h hc
  | false=>rw [h] at hc; exact OpT_mapAddQ T ho hm hx hy hl hz hr (Option.isNone_iff_eq_none.1 (Option.isSome_eq_false_iff.1 h)) hc
end
end
open Go.RowKit
abbrev ok32 (k:List UInt8):Prop:=k.length=32
theorem keyB:KeyT Tryz.prog 29 idV ok32:=keyT_id Tryz.underlying29 Tryz.underlying5 Tryz.sizeOf5
abbrev LB:=List UInt8 × Value × List UInt8
def entsL (es:List LB):List (List UInt8 × Value):=es.map fun p=>(p.1,p.2.1)
def setL (k:List UInt8) (v:Value) (d:List UInt8):List LB→List LB
  | []=>[]
  | p::es=>if k=p.1 then (k,v,d)::es else p::setL k v d es
def putL (k:List UInt8) (v:Value) (d:List UInt8) (es:List LB):List LB:=if (lookQ k (entsL es)).isSome then setL k v d es else es++[(k,v,d)]
theorem setQ_L (k:List UInt8) (v:Value) (d:List UInt8):∀ es:List LB,setQ k v (entsL es)=entsL (setL k v d es)
  | []=>rfl
  | p::es=>by
    show setQ k v ((p.1,p.2.1)::entsL es)=_
    rw [setQ,setL]
    by_cases h:k=p.1
    · rw [if_pos h,if_pos h]; rfl
    · rw [if_neg h,if_neg h,setQ_L k v d es]; rfl
theorem putQ_L (k:List UInt8) (v:Value) (d:List UInt8) (es:List LB):putQ k v (entsL es)=entsL (putL k v d es):=by
  unfold putQ putL
  split
  · exact setQ_L k v d es
  · unfold entsL; rw [List.map_append]; rfl
theorem setL_keys (k:List UInt8) (v:Value) (d:List UInt8):∀ es:List LB,(setL k v d es).map (·.1)=es.map (·.1)
  | []=>rfl
  | p::es=>by
    rw [setL]
    split
    · rename_i h; rw [List.map_cons,List.map_cons,h]
    · rw [List.map_cons,List.map_cons,setL_keys k v d es]
theorem setL_mem {k:List UInt8} {v:Value} {d:List UInt8}:∀ {es:List LB} {p:LB},p ∈ setL k v d es→p=(k,v,d)∨p ∈ es
  | [],_,h=>by simp [setL] at h
  | q::es,p,h=>by
    rw [setL] at h
    split at h
    · rcases List.mem_cons.1 h with h | h
      · exact .inl h
      · exact .inr (by simp [h])
    · rcases List.mem_cons.1 h with h | h
      · exact .inr (by simp [h])
      · rcases setL_mem h with h | h
        · exact .inl h
        · exact .inr (by simp [h])
theorem look_key {k:List UInt8}:∀ {es:List LB},(lookQ k (entsL es)).isSome=true ↔ k ∈ es.map (·.1)
  | []=>by simp [entsL,lookQ]
  | p::es=>by
    show (lookQ k ((p.1,p.2.1)::entsL es)).isSome=true ↔ _
    rw [lookQ,List.map_cons,List.mem_cons]
    by_cases h:k=p.1
    · simp [h]
    · rw [if_neg h,look_key]
      simp [h]
theorem putL_keys (k:List UInt8) (v:Value) (d:List UInt8) (es:List LB):(∀ x,x ∈ (putL k v d es).map (·.1) ↔ x=k∨x ∈ es.map (·.1))∧((es.map (·.1)).Nodup→((putL k v d es).map (·.1)).Nodup):=by
  unfold putL
  split
  · rename_i h
    have hk:=look_key.1 h
    rw [setL_keys]
    exact ⟨fun x=>⟨.inr,fun hx=>by rcases hx with rfl | hx; exact hk; exact hx⟩,id⟩
  · rename_i h
    have hk:k ∉ es.map (·.1):=fun hk=>h (look_key.2 hk)
    rw [List.map_append,List.map_cons,List.map_nil]
    refine ⟨fun x=>by simp [or_comm],fun hn=>?_⟩
    rw [List.nodup_append]
    exact ⟨hn,by simp,fun a ha b hb e=>by simp at hb; subst hb; subst e; exact hk ha⟩
theorem putL_mem {k:List UInt8} {v:Value} {d:List UInt8} {es:List LB} {p:LB} (h:p ∈ putL k v d es):p=(k,v,d)∨p ∈ es:=by
  unfold putL at h
  split at h
  · exact setL_mem h
  · rcases List.mem_append.1 h with h | h
    · exact .inr h
    · simp at h; exact .inl h
structure Laid (hist:List (List UInt8)) (es:List LB):Prop where
  nodup:(es.map (·.1)).Nodup
  from_:∀ p ∈ es,p.1=sha p.2.2∧p.2.2 ∈ hist
  all:∀ d ∈ hist,sha d ∈ es.map (·.1)
  len:es.length≤hist.length
theorem putL_len (k:List UInt8) (v:Value) (d:List UInt8) (es:List LB):(putL k v d es).length≤es.length + 1:=by
  unfold putL
  split
  · have:=congrArg List.length (setL_keys k v d es)
    rw [List.length_map,List.length_map] at this
    omega
  · simp
theorem Laid.nil:Laid [] []:=⟨by simp,by simp,by simp,by simp⟩
theorem Laid.put {hist:List (List UInt8)} {es:List LB} (h:Laid hist es) (v:Value) (d:List UInt8):Laid (hist++[d]) (putL (sha d) v d es) where
  nodup:=(putL_keys _ _ _ _).2 h.nodup
  from_:=fun p hp=>by
    rcases putL_mem hp with rfl | hp
    · exact ⟨rfl,by simp⟩
    · obtain ⟨h1,h2⟩:=h.from_ p hp
      exact ⟨h1,by simp [h2]⟩
  all:=fun x hx=>by
    rw [(putL_keys _ _ _ _).1]
    rcases List.mem_append.1 hx with hx | hx
    · exact .inr (h.all x hx)
    · simp at hx; subst hx; exact .inl rfl
  len:=by have h1:=putL_len (sha d) v d es; have h2:=h.len; rw [List.length_append,List.length_singleton]; omega
def datL (es:List LB):HP:=fun h=>∀ p ∈ es,rdB p.2.1 p.2.2 h
abbrev bldParts (g gm:Nat) (es:List LB):List HP:=[blk g 88 [.map (some gm)],mapQ idV ok32 gm (entsL es) none,datL es]
def bldP (g:Nat) (hist:List (List UInt8)):HP:=fun h=>∃ q:Nat × List LB,Laid hist q.2∧starL (bldParts g q.1 q.2) h
theorem closeBld {g gm:Nat} {hist:List (List UInt8)} {es:List LB} (hl:Laid hist es) {h:Hlt} (hs:starL (bldParts g gm es) h):bldP g hist h:=⟨(gm,es),hl,hs⟩
theorem starL_le {Ps:List HP} {h:Hlt} (hs:starL Ps h) {φ:HP} (k:Nat) {P:HP} (hk:Ps[k]?=some P) (hφ:∀ h',P h'→(∀ g o,h' g=some o→h g=some o)→φ h):φ h:=by
  obtain ⟨f,h1,_,h3⟩:=hs
  exact hφ _ (h1 k P hk) (fun g o ho=>h3 k g o ho)
theorem datL_put {es:List LB} {k d:List UInt8} {v:Value} {t:TypeId} {h:Hlt} (hs:starL [datL es,rowB t v d] h):datL (putL k v d es) h:=fun p hp=>by
  rcases putL_mem hp with rfl | hp
  · exact starL_le hs (φ:=rdB v d) 1 rfl fun h' h1 h2=>rdP_le h2 (rp9 h1)
  · exact starL_le hs (φ:=rdB p.2.1 p.2.2) 0 rfl fun h' h1 h2=>rdP_le h2 (h1 p hp)
theorem W_openBld {P:Program} {E:Env} {n:Nat} {K:Slots} {L:Res} {Q:Exit→Act→World→Prop} {c:Code} (r b:Nat) {g:Nat} {hist:List (List UInt8)} (hr:look L r=some (bldP g hist))
    (k:∀ gm es,Laid hist es→W P E n c K (En b (bldParts g gm es)++(r,emp)::L) Q):W P E n c K L Q :=
  W_open (φ:=fun q:Nat × List LB=>Laid hist q.2) (Ps:=fun q=>bldParts g q.1 q.2) r b hr (fun h hp=>hp) (fun q hq=>k q.1 q.2 hq)
open Go.RowKit
set_option maxRecDepth 8000
theorem lay_spec (g:Nat) (hist:List (List UInt8)) (v:Value) (d:List UInt8) (hd:d.length≤1000000) (F:HP):CallsS Tryz.prog 92 #[.pointer (some ⟨g,0,none⟩),v] F [bldP g hist,rowB 5 v d] (fun r Ps=>r=idV (sha d)∧Ps=[bldP g (hist++[d])]):=by
 refine callsS_enter Tryz.func92 rfl Tryz.ntmps92 (by simp) (fun E=>?_)
 refine Q9 (R9 (Lc9 rfl rfl (by decide) (OpT_alloc (r:=101) (cs:=(bs zeroId)) rfl (zero_run (by kernel_rfl:(Tryz.prog.info? 29).bind (·.zero)=some (.agg (bs zeroId).toArray))) rfl (fun g101=>(N9 (X9 (Q9 (R9 (M9 rfl rfl (Lc9 rfl rfl (by decide) (Oc9 200 [0,1,2,101] [] rfl Tryz.call72 rfl rfl rfl (by decide) (by decide) (sum_spec v d (by omega) _ (rs9 2 rfl (fun h hp=>rp9 hp))) (fun v7 Ps7 hR7=>?_))))))))))))
 obtain ⟨rfl,rfl⟩:=hR7
 refine (Lc9 rfl rfl (by decide) (OpT_alloc (r:=201) (cs:=(bs zeroId)) rfl (zero_run (by kernel_rfl:(Tryz.prog.info? 29).bind (·.zero)=some (.agg (bs zeroId).toArray))) rfl (fun g201=>(Lc09 rfl rfl (OpT_storeAll (r:=201) rfl Tryz.sizeOf29 rfl rfl rfl rfl ((bs_length _).trans (sha_length d)) (bs_one _) ?_)))))
 refine (N9 (X9 ?_))
 refine Q9 ?_
 refine W_openBld 1 600 rfl (fun gm es hl=>?_)
 refine W_draw (N:=7) (by kernel_rfl) rfl [(0,_),(101,_),(201,_),(600,_)] ⟨rfl,rfl,rfl,rfl,trivial⟩ ?_
 refine (T9 0 rfl rfl (Pm9 rfl rfl) (T9 1 rfl rfl (Pu_nilCheck rfl rfl) (T9 2 rfl rfl (F9 0 rfl rfl) (T9 3 rfl rfl (Pb9 (r:=600) rfl Tryz.isAgg86 rfl rfl rfl) (T9 4 rfl rfl (Px9 (r:=201) rfl Tryz.isAgg29 Tryz.sizeOf29 rfl rfl ((bs_length _).trans (sha_length d)) (load_all ((bs_length _).trans (sha_length d)))) (T9 5 rfl rfl (Pm9 rfl rfl) (Y9 [6] ?_)))))))
 refine Ac09 rfl rfl rfl (OpT_mapPutQ (r:=601) (k:=sha d) (v:=v) (es:=entsL es) (g:=gm) keyB rfl Tryz.underlying86 rfl rfl (sha_length d) rfl rfl ?_) ?_
 ·
  refine ⟨⟨rfl,rfl,rfl,rfl,trivial⟩,?_⟩
  refine (Ad9 (by kernel_rfl) (X9 ?_))
  refine Q9 (R9 (L9 rfl (Px9 (r:=201) rfl Tryz.isAgg29 Tryz.sizeOf29 rfl rfl ((bs_length _).trans (sha_length d)) (load_all ((bs_length _).trans (sha_length d)))) (Lc09 rfl rfl (OpT_storeAll (r:=101) rfl Tryz.sizeOf29 rfl rfl rfl rfl ((bs_length _).trans (sha_length d)) (bs_one _) ?_))))
  refine (N9 (X9 ?_))
  refine W_ret ?_
  refine X_turn (P':=mapQ idV ok32 gm (entsL (putL (sha d) v d es)) none) 601 rfl (fun h hp=>by rw [← putQ_L]; exact hp) ?_
  refine X_join [602,2] 602 (datL (putL (sha d) v d es)) rfl (by decide) (fun h hs=>datL_put hs) ?_
  refine X_join [600,601,602] 1 (bldP g (hist++[d])) rfl (by decide) (fun h hs=>closeBld (hl.put v d) hs) ?_
  exact Xq9 [1] (Ps:=[_]) (resC1 (r:=101) Tryz.results92 rfl Tryz.isAgg29 Tryz.sizeOf29 rfl ((bs_length _).trans (sha_length d))) rfl (by decide) ⟨rfl,rfl⟩
 exact An9
end Go.Proofs.YthkdkmaacjpneaaGreatDoor
