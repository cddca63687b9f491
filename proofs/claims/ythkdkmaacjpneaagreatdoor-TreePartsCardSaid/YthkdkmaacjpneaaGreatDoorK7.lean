/- Texts of this proof, one behind the other: TreeAB, TreeLn, TreePp, TreeMt, TreeBA, TreeBB, TreeBD, TreeBE, TreeAC, TreePq, Open, Open2, Open3, Open4, OpenF, TreePr, LaidN. -/
import Derived.Test.YthkdkmaacjpneaaGreatDoorK6
import Derived.Test.YthkdkmaacjpneaaGreatDoorK2
import Derived.Test.YthkdkmaacjpneaaGreatDoorK5
import Derived.Test.YthkdkmaacjpneaaGreatDoorK3
import Derived.Test.YthkdkmaacjpneaaGreatDoorK1
import Derived.ProofKit
import Derived.Deep.Slices
import Derived.Deep.Fields
import Derived.ChangeOld
import Derived.OpenShut
import Derived.SizedLaws
import Derived.ChangeMaps5
import Derived.Test.YthkdkmaacjpneaaGreatDoorRows
import Derived.Lib.LaidU8
import Derived.Shelf.Vars
import Derived.MakeChecks
set_option linter.unusedVariables false
set_option linter.unusedSimpArgs false
set_option linter.unusedSectionVars false
namespace Go.Proofs.YthkdkmaacjpneaaGreatDoor
open Go.RowKit
set_option maxRecDepth 8000
section
variable {P : Program}
theorem run_mulU8 (a b : UInt8) (t : TypeId) (x y : Operand) (w : World) : ((do eqGuard .mul t x y (bv a) (bv b); binOp .mul t (bv a) (bv b) : Sem Value)).run P w = .ok (bv (a * b)) w:=by
  have : IntKind.u8.wrap ((a.toNat : Int) * (b.toNat : Int)) = ((a * b).toNat : Int):=by
    rw [u8_wrap,UInt8.toNat_mul]
    norm_cast
  simp [bv,eqGuard,binOp,Op.intArith,this]
end
theorem bs_setI (l : List UInt8) (i : Nat) (x : UInt8) : (bs l).set i (bv x) = bs (l.set i x):=by simp [bs,List.map_set]
abbrev FV:=List Int × Value × Int × UInt8
def fv0 : FV:=([],.slice none 0 0,0,0)
def fileC (f : FV) : List Value:=[f.2.1,.int .i64 f.2.2.1,bv f.2.2.2]
abbrev rdFV (v : Value) (fs : List FV) : HP:=rdR fileC 3 v fs
def datFV (fs : List FV) : HP:=fun h => ∀ f ∈ fs,rdN f.2.1 f.1 h
theorem fvs_len (fs : List FV) : ∀ f ∈ fs,(fileC f).length = 3:=fun _ _ => rfl
theorem fv_get {fs : List FV} {k j : Nat} (hk : k < fs.length) (hj : j < 3) : (recC fileC fs)[k * 3 + j]? = (fileC (fs.getD k fv0))[j]?:=recC_at (d:=fv0) (fvs_len fs) hk hj
theorem fv_nv {fs : List FV} {k : Nat} (hk : k < fs.length) : (recC fileC fs)[k * 3 + 0]? = some (fs.getD k fv0).2.1:=fv_get hk (by decide)
theorem fv_size {fs : List FV} {k : Nat} (hk : k < fs.length) : (recC fileC fs)[k * 3 + 1]? = some (.int .i64 (fs.getD k fv0).2.2.1):=fv_get hk (by decide)
theorem fv_by {fs : List FV} {k : Nat} (hk : k < fs.length) : (recC fileC fs)[k * 3 + 2]? = some (bv (fs.getD k fv0).2.2.2):=fv_get hk (by decide)
def itemsP (v : Value) (xs : List F3) : HP:=fun h => starL [rowR itC 2 38 v xs,datI xs] h
def PathOk (p : List UInt8) : Prop:=∃ ls : List (List UInt8),ls ≠ [] ∧ (∀ n ∈ ls,n.length ≤ 2 ∧ (47 : UInt8) ∉ n ∧ n ≠ []) ∧ p = jn ls
def Short3 (xs : List F3) : Prop:=∀ x ∈ xs,x.1.length ≤ 200 ∧ x.2.2.length ≤ 1100 ∧ PathOk x.1
theorem Short3.snoc {xs : List F3} (h : Short3 xs) {x : F3} (h1 : x.1.length ≤ 200) (h2 : x.2.2.length ≤ 1100) (h3 : PathOk x.1) : Short3 (xs ++ [x]):=fun y hy => by
  rcases List.mem_append.1 hy with hy | hy
  · exact h y hy
  · rw [List.mem_singleton.1 hy]; exact ⟨h1,h2,h3⟩
def five : List (List UInt8):=[[97],[98],[99],[100,100],[195,169]]
theorem five_len {m : Nat} : (five.getD m []).length ≤ 2:=by
  by_cases h : m < 5
  · have : ∀ k : Fin 5,(five.getD k.val []).length ≤ 2:=by decide
    exact this ⟨m,h⟩
  · rw [List.getD_eq_getElem?_getD,List.getElem?_eq_none (show five.length ≤ m by show 5 ≤ m; omega)]
    decide
theorem five_ok {m : Nat} (h : m < 5) : (five.getD m []).length ≤ 2 ∧ (47 : UInt8) ∉ five.getD m [] ∧ five.getD m [] ≠ []:=by
  have : ∀ k : Fin 5,(five.getD k.val []).length ≤ 2 ∧ (47 : UInt8) ∉ five.getD k.val [] ∧ five.getD k.val [] ≠ []:=by decide
  exact this ⟨m,h⟩
theorem z_ok {i : Nat} (h : i < 22) : PathOk ([47,122] ++ [byte (97 + (i : Int))]):=by
  have : ∀ k : Fin 22,(47 : UInt8) ∉ [122,byte (97 + (k.val : Int))]:=by decide
  refine ⟨[[122,byte (97 + (i : Int))]],by simp,fun n hn => ?_,rfl⟩
  rw [List.mem_singleton.1 hn]
  exact ⟨by simp,this ⟨i,h⟩,by simp⟩
def PathY (y : List UInt8) : Prop:=∃ ls : List (List UInt8),(∀ n ∈ ls,n.length ≤ 2 ∧ (47 : UInt8) ∉ n ∧ n ≠ []) ∧ y = jn ls
theorem PathY.nil : PathY []:=⟨[],(fun n hn => by cases hn),rfl⟩
theorem PathY.add {y : List UInt8} (h : PathY y) {m : Nat} (hm : m < 5) : PathY (y ++ [47] ++ five.getD m []):=by
  obtain ⟨ls,h1,rfl⟩:=h
  refine ⟨ls ++ [five.getD m []],fun n hn => ?_,by simp [jn]⟩
  rcases List.mem_append.1 hn with hn | hn
  · exact h1 n hn
  · rw [List.mem_singleton.1 hn]; exact five_ok hm
theorem PathY.ok {y : List UInt8} (h : PathY y) (hy : (y == []) = false) : PathOk y:=by
  obtain ⟨ls,h1,rfl⟩:=h
  refine ⟨ls,fun hc => ?_,h1,rfl⟩
  subst hc
  cases hy
theorem row_it {e : TypeId} {v : Value} {xs : List F3} {z : F3} {h : Hlt} (hp : rowP e 2 v (xs.length + 1) (recC itC xs ++ [itC z].flatten) h) : rowR itC 2 e v (xs ++ [z]) h:=by
  unfold rowR
  rw [List.length_append,recC_append,recC_one]
  simpa using hp
theorem datI_add {xs : List F3} {p d : List UInt8} {v : Value} {t : TypeId} {h : Hlt} (hs : starL [datI xs,rowB t v d] h) : datI (xs ++ [(p,v,d)]) h:=fun x hx => by
  rcases List.mem_append.1 hx with hx | hx
  · exact starL_le hs (φ:=rdB x.2.1 x.2.2) 0 rfl fun h' h1 h2 => rdP_le h2 (h1 x hx)
  · rw [List.mem_singleton.1 hx]; exact starL_le hs (φ:=rdB v d) 1 rfl fun h' h1 h2 => rdP_le h2 (rp9 h1)
theorem W_openItems {P : Program} {E : Env} {n : Nat} {K : Slots} {L : Res} {Q : Exit → Act → World → Prop} {c : Code} (r b : Nat) {v : Value} {xs : List F3} (hr : look L r = some (itemsP v xs))
    (k : W P E n c K (En b [rowR itC 2 38 v xs,datI xs] ++ (r,emp) :: L) Q) : W P E n c K L Q:=W_split r b _ hr (fun h hp => hp) k
theorem datI_star {Js : List HP} {P : HP} {xs : List F3} (k : Nat) (hk : Js[k]? = some P) (hp : ∀ h,P h → datI xs h) : ∀ h,starL Js h → datI xs h:=fun h hs x hx => rs9 k hk (fun h' hh => hp h' hh x hx) h hs
theorem items_spec (v : Value) (fs : List FV) (F : HP) (hF : ∀ h,F h → rdFV v fs h) (hN : ∀ h,F h → datFV fs h) : CallsS Tryz.prog 20 #[v] F [] (fun r Ps => ∃ xs : List F3,xs.length ≤ 22 ∧ Short3 xs ∧ Ps = [itemsP r xs]):=by
 refine callsS_enter Tryz.func20 rfl Tryz.ntmps20 (by simp) (fun E => ?_)
 refine Q9 (R9 (G9 rfl rfl (N9 (X9 (Q9 ?_)))))
 refine W_nilRow 3 38 2 ?_
 refine W_nilRow 4 5 1 ?_
 refine Wt9 (P':=datI []) 4 rfl (fun h _ p hp => absurd hp (by simp)) ?_
 refine Wt9 (P':=rowR itC 2 38 (.slice none 0 0) []) 3 rfl (fun h hp => hp) ?_
 refine R9 (G9 rfl rfl (N9 (X9 (Q9 (Q9 (R9 (G9 rfl rfl (N9 (X9 ?_)))))))))
 refine W_block ?_
 refine W_loop (α:=Nat × Value × List F3) (fun x => [(0,v),(3,x.2.1),(4,.int .i64 (x.1 : Int))]) (fun x => [(0,F),(3,rowR itC 2 38 x.2.1 x.2.2),(4,datI x.2.2)]) (fun x => x.1 ≤ fs.length ∧ x.1 ≤ 22 ∧ x.2.2.length ≤ x.1 ∧ Short3 x.2.2) (fun x => fs.length - x.1) ((0,.slice none 0 0,[])) ⟨Nat.zero_le _,Nat.zero_le _,Nat.le_refl _,fun q hq => absurd hq (by simp)⟩ (a9 rfl) (a9 rfl) (fun x hx => ?_)
 obtain ⟨hx,hx22,hxl,hxs⟩:=hx
 refine Q9 (Q9 (R9 (M9 rfl rfl (M9 rfl rfl (L9 rfl (Pl9 (r:=0) rfl Tryz.runUnderlying22 rfl rfl hF) (L9 rfl (Pn9 rfl rfl rfl (run_lss _ _ _ _ _ _)) (M9 rfl rfl (Lg9 rfl rfl rfl rfl (by decide) (fun hb => (Pm9 rfl rfl)) (Lg9 rfl rfl rfl rfl (by decide) (fun hb => (Pn9 rfl (ev_gv rfl hb) rfl (run_lss _ _ _ _ _ _))) (L9 rfl (Pu_and rfl rfl rfl) (N9 (X9 ?_))))))))))))
 refine C9 rfl (fun hc16 => ?_) (fun hc16 => ?_)
 ·
  have hlt : x.1 < fs.length ∧ x.1 < 22:=by simp only [Bool.and_eq_true,decide_eq_true_eq] at hc16; omega
  have hfm : fs.getD x.1 fv0 ∈ fs:=getD_mem' hlt.1
  have hfn : ∀ h,F h → rdN (fs.getD x.1 fv0).2.1 (fs.getD x.1 fv0).1 h:=fun h hp => hN h hp _ hfm
  refine K9 (X9 ?_)
  refine Q9 ?_
  refine W_block ?_
  refine Q9 (R9 (G9 rfl rfl (N9 (X9 (Q9 (Q9 (R9 (G9 rfl rfl (N9 (X9 ?_))))))))))
  refine W_block ?_
  refine W_loop (α:=Nat × List UInt8) (fun y => [(0,v),(3,x.2.1),(4,.int .i64 (x.1 : Int)),(5,sV y.2),(6,.int .i64 (y.1 : Int))]) (fun y => [(0,F),(3,rowR itC 2 38 x.2.1 x.2.2),(4,datI x.2.2)]) (fun y => y.2.length ≤ 3 * y.1 ∧ y.1 ≤ 6 ∧ PathY y.2) (fun y => 6 - y.1) ((0,[])) ⟨Nat.le_refl _,Nat.zero_le _,PathY.nil⟩ (a9 rfl) (a9 rfl) (fun y hy => ?_)
  obtain ⟨hy,hy6,hyp⟩:=hy
  refine Q9 (Q9 (R9 (M9 rfl rfl (M9 rfl rfl (M9 rfl rfl (L9 rfl (Pi9 (r:=0) rfl Tryz.runUnderlying22 Tryz.sizeOf97 rfl rfl rfl hF (by omega)) (L9 rfl (Pu_fieldAddrE (off:=0) rfl rfl (by kernel_rfl)) (L9 rfl (Py9 (r:=0) rfl Tryz.isAgg61 rfl rfl hF (fv_nv (k:=x.1) hlt.1)) (L9 rfl (Pl9 (r:=0) rfl Tryz.runUnderlying61 rfl rfl hfn) (L9 rfl (Pn9 rfl rfl rfl (run_lss _ _ _ _ _ _)) (M9 rfl rfl (Lg9 rfl rfl rfl rfl (by decide) (fun hb => (Pm9 rfl rfl)) (Lg9 rfl rfl rfl rfl (by decide) (fun hb => (Pn9 rfl (ev_gv rfl hb) rfl (run_lss _ _ _ _ _ _))) (L9 rfl (Pu_and rfl rfl rfl) (N9 (X9 ?_))))))))))))))))
  refine C9 rfl (fun hc30 => ?_) (fun hc30 => ?_)
  ·
   have hlty : y.1 < (fs.getD x.1 fv0).1.length ∧ y.1 < 6:=by simp only [Bool.and_eq_true,decide_eq_true_eq] at hc30; omega
   refine K9 (X9 ?_)
   refine Q9 ?_
   refine W_block ?_
   refine R9 (M9 rfl rfl (L9 rfl (Pn9 rfl rfl rfl (run_addL y.2 [47] _ _ _ (by rw [List.length_singleton]; omega))) (Lc9 rfl rfl (by decide) (OpT_buildOnes (r:=101) (ss five) rfl rfl Tryz.runUnderlying63 Tryz.sizeOf9 Tryz.zeroValue9 rfl rfl (by decide) rfl (ss_cells _) (fun v35 => ?_)))))
   refine Lt9 (P':=rowS 9 v35 five) (r:=101) rfl (fun h hp => hp) ?_
   refine (M9 rfl rfl (M9 rfl rfl (L9 rfl (Pi9 (r:=0) rfl Tryz.runUnderlying22 Tryz.sizeOf97 rfl rfl rfl hF (by omega)) (L9 rfl (Pu_fieldAddrE (off:=0) rfl rfl (by kernel_rfl)) (L9 rfl (Py9 (r:=0) rfl Tryz.isAgg61 rfl rfl hF (fv_nv (k:=x.1) hlt.1)) (M9 rfl rfl (L9 rfl (Pu_idxS1 (r:=0) rfl Tryz.runUnderlying61 Tryz.sizeOf3 rfl rfl rfl hfn (by omega)) (L9 rfl (Py9 (r:=0) rfl Tryz.isAgg3 rfl rfl hfn (is_at (k:=y.1) hlty.1)) (Lc9 rfl rfl (by decide) (Oc9 200 [0,3,4,101] [] rfl Tryz.call15 rfl rfl rfl (by decide) (by decide) (within_spec ((fs.getD x.1 fv0).1.getD y.1 0) 5 (by omega) (by omega) _) (fun v44 Ps44 hR44 => ?_)))))))))))
   obtain ⟨rfl,rfl⟩:=hR44
   obtain ⟨m,hm,hm5⟩ : ∃ m : Nat,((fs.getD x.1 fv0).1.getD y.1 0) % 5 = (m : Int) ∧ m < 5:=⟨(((fs.getD x.1 fv0).1.getD y.1 0) % 5).toNat,by omega,by omega⟩
   rw [hm]
   refine (L9 rfl (Pu_idxS1 (r:=101) rfl Tryz.runUnderlying63 Tryz.sizeOf9 rfl rfl rfl rowS_rd (by show 0 ≤ _ ∧ _ < (5 : Int); omega)) (L9 rfl (Py9 (r:=101) rfl Tryz.isAgg9 rfl rfl rowS_rd (ss_at (k:=m) (show m < 5 from hm5))) (L9 rfl (Pn9 rfl rfl rfl (run_addL (y.2 ++ [47]) (five.getD m []) _ _ _ (by have:=five_len (m:=m); rw [List.length_append,List.length_singleton]; omega))) (G9 rfl rfl (N9 (X_block (X9 ?_)))))))
   refine R9 (M9 rfl rfl (L9 rfl (Pn9 rfl rfl rfl (run_add _ _ _ _ _ (by omega))) (G9 rfl rfl (N9 ?_))))
   exact Xr9 (y.1 + 1,y.2 ++ [47] ++ five.getD m []) ⟨by dsimp only; rw [List.length_append,List.length_append,List.length_singleton]; have:=five_len (m:=m); omega,by dsimp only; omega,hyp.add hm5⟩ (by dsimp only; omega) (a9 rfl) (a9 rfl)
  ·
   refine W_exit (X_then_exit (X_then_exit (X_block_exit (X9 ?_))))
   refine Q9 (Q9 (R9 (M9 rfl rfl (L9 rfl (Pn9 rfl rfl rfl (run_strEq y.2 [] _ _ _)) (N9 (X9 ?_))))))
   refine C9 rfl (fun hc49 => ?_) (fun hc49 => ?_)
   ·
    refine R9 (M9 rfl rfl (L9 rfl (Pn9 rfl rfl rfl (run_add _ _ _ _ _ (by omega))) (L9 rfl (Pu_conv rfl rfl (conv_byte _ _ Tryz.runUnderlying3 Tryz.runUnderlying5)) (Lc9 rfl rfl (by decide) (OpT_buildOnes (r:=101) (bs [byte (97 + (x.1 : Int))]) rfl rfl Tryz.runUnderlying36 Tryz.sizeOf5 Tryz.zeroValue5 rfl rfl (by decide) rfl (bs_cells _) (fun v53 => ?_))))))
    refine Lt9 (P':=rowB 5 v53 [byte (97 + (x.1 : Int))]) (r:=101) rfl (fun h hp => hp) ?_
    refine (L9 rfl (Pu_convBS (r:=101) rfl Tryz.underlying36 Tryz.underlying5 Tryz.underlying9 rfl rfl rowB_rd) (L9 rfl (Pn9 rfl rfl rfl (run_addL [47,122] [byte (97 + (x.1 : Int))] _ _ _ (by show (3 : Nat) ≤ _; decide))) (G9 rfl rfl (N9 (X9 ?_)))))
    refine Q9 (R9 (M9 rfl rfl (M9 rfl rfl (L9 rfl (Pi9 (r:=0) rfl Tryz.runUnderlying22 Tryz.sizeOf97 rfl rfl rfl hF (by omega)) (L9 rfl (Pu_fieldAddrE (off:=1) rfl rfl (by kernel_rfl)) (L9 rfl (Py9 (r:=0) rfl Tryz.isAgg3 rfl rfl hF (fv_size (k:=x.1) hlt.1)) (Lc9 rfl rfl (by decide) (Oc9 200 [0,3,4,101] [] rfl Tryz.call15 rfl rfl rfl (by decide) (by decide) (within_spec (fs.getD x.1 fv0).2.2.1 1002 (by omega) (by omega) _) (fun v61 Ps61 hR61 => ?_)))))))))
    obtain ⟨rfl,rfl⟩:=hR61
    obtain ⟨q,hq,hq2⟩ : ∃ q : Nat,(fs.getD x.1 fv0).2.2.1 % 1002 = (q : Int) ∧ q < 1002:=⟨((fs.getD x.1 fv0).2.2.1 % 1002).toNat,by omega,by omega⟩
    rw [hq]
    refine (Lc9 rfl rfl (by decide) (OpT_make (r:=201) (m:=q) rfl Tryz.underlying36 TI.hi5 TI.hz5 TI.hs5 rfl rfl (by rw [TI.hby5]; omega) (by unfold maxLen; omega) ((made_one _ _).trans (made_bytes q)) (fun v62 => ?_)))
    refine Lt9 (P':=rowB 5 v62 (List.replicate q 0)) (r:=201) rfl (fun h hp => rowB_mk hp (by rw [List.length_replicate]) rfl) ?_
    refine (G9 rfl rfl (N9 (X9 ?_)))
    refine Q9 (Q9 (R9 (G9 rfl rfl (N9 (X9 ?_)))))
    refine W_block ?_
    refine W_loop (α:=Nat × List UInt8) (fun z => [(0,v),(3,x.2.1),(4,.int .i64 (x.1 : Int)),(5,sV ([47,122] ++ [byte (97 + (x.1 : Int))])),(7,v62),(8,.int .i64 (z.1 : Int))]) (fun z => [(0,F),(3,rowR itC 2 38 x.2.1 x.2.2),(4,datI x.2.2),(201,rowB 5 v62 z.2)]) (fun z => z.2.length = q ∧ z.1 ≤ q) (fun z => q - z.1) ((0,List.replicate q 0)) ⟨List.length_replicate,Nat.zero_le _⟩ (a9 rfl) (a9 rfl) (fun z hz => ?_)
    obtain ⟨hz,hzq⟩:=hz
    refine Q9 (Q9 (R9 (M9 rfl rfl (M9 rfl rfl (L9 rfl (Pl9 (r:=201) rfl Tryz.runUnderlying36 rfl rfl (fun _ h => rp9 h)) (L9 rfl (Pn9 rfl rfl rfl (run_lss _ _ _ _ _ _)) (N9 (X9 ?_))))))))
    refine C9 rfl (fun hc66 => ?_) (fun hc66 => ?_)
    ·
     have hltz : z.1 < z.2.length:=by have:=of_decide_eq_true hc66; omega
     refine K9 (X9 ?_)
     refine Q9 ?_
     refine W_block ?_
     refine W_draw (N:=21) (by kernel_rfl) rfl [(0,_)] ⟨rfl,trivial⟩ ?_
     refine (T9 0 rfl rfl (Pm9 rfl rfl) (T9 1 rfl rfl (Pm9 rfl rfl) (T9 2 rfl rfl (Pm9 rfl rfl) (T9 3 rfl rfl (Pm9 rfl rfl) (T9 4 rfl rfl (Pi9 (r:=0) rfl Tryz.runUnderlying22 Tryz.sizeOf97 rfl rfl rfl hF (by omega)) (T9 5 rfl rfl (Pu_fieldAddrE (off:=2) rfl rfl (by kernel_rfl)) (T9 6 rfl rfl (Py9 (r:=0) rfl Tryz.isAgg5 rfl rfl hF (fv_by (k:=x.1) hlt.1)) (T9 7 rfl rfl (Pm9 rfl rfl) (T9 8 rfl rfl (Pn9 rfl rfl rfl (run_quo _ _ _ _ _ (by omega))) (T9 9 rfl rfl (Pu_conv rfl rfl (conv_byte _ _ Tryz.runUnderlying3 Tryz.runUnderlying5)) (T9 10 rfl rfl (Pm9 rfl rfl) (T9 11 rfl rfl (Pm9 rfl rfl) (T9 12 rfl rfl (Pi9 (r:=0) rfl Tryz.runUnderlying22 Tryz.sizeOf97 rfl rfl rfl hF (by omega)) (T9 13 rfl rfl (Pu_fieldAddrE (off:=1) rfl rfl (by kernel_rfl)) (T9 14 rfl rfl (Py9 (r:=0) rfl Tryz.isAgg3 rfl rfl hF (fv_size (k:=x.1) hlt.1)) (T9 15 rfl rfl (Pn9 rfl rfl rfl (run_tmod _ _ _ _ _ (by omega))) (T9 16 rfl rfl (Pu_conv rfl rfl (conv_byte _ _ Tryz.runUnderlying3 Tryz.runUnderlying5)) (T9 17 rfl rfl (Pn9 rfl rfl rfl (run_mulU8 _ _ _ _ _)) (T9 18 rfl rfl (Pn9 rfl rfl rfl (run_addU8 _ _ _ _ _)) (Y9 [19] ?_))))))))))))))))))))
     refine Z9 rfl rfl (Or9 (Pu_idxS1 (r:=201) rfl Tryz.runUnderlying36 Tryz.sizeOf5 rfl rfl rfl (fun _ h => rp9 h) (by omega)) ⟨⟨rfl,trivial⟩,?_⟩) ?_
     ·
      refine (Y9 [20] ?_)
      refine Ac09 rfl rfl rfl (OpT_storeS1 (r:=201) rfl Tryz.sizeOf5 rfl rfl rfl rfl (by show _ < (bs z.2).length; rw [bs_length]; omega) rfl ?_) ?_
      ·
       refine ⟨⟨rfl,trivial⟩,?_⟩
       refine AH_turn (P':=rowB 5 v62 (z.2.set z.1 ((fs.getD x.1 fv0).2.2.2 + byte ((z.1 : Int) / 64) * byte ((fs.getD x.1 fv0).2.2.1.tmod 3)))) 201 rfl (fun h hp => rowB_mk hp (by rw [List.length_set]) (by rw [← bs_setI]; rfl)) ?_
       refine (Ad9 (by kernel_rfl) (X_block (X9 ?_)))
       refine R9 (M9 rfl rfl (L9 rfl (Pn9 rfl rfl rfl (run_add _ _ _ _ _ (by omega))) (G9 rfl rfl (N9 ?_))))
       exact Xr9 (z.1 + 1,z.2.set z.1 ((fs.getD x.1 fv0).2.2.2 + byte ((z.1 : Int) / 64) * byte ((fs.getD x.1 fv0).2.2.1.tmod 3))) ⟨by dsimp only; rw [List.length_set]; exact hz,by dsimp only; omega⟩ (by dsimp only; omega) (a9 rfl) (a9 rfl)
      exact An9
     exact An9
    ·
     refine W_exit (X_then_exit (X_then_exit (X_block_exit (X9 ?_))))
     refine W_fact (r:=201) rfl (fun h hp => rd_one (rowB_rd h hp)) (fun (ho62 : v62.oneCell' = true) => ?_)
     refine R9 (M9 rfl rfl (M9 rfl rfl (M9 rfl rfl (L9 rfl (Pu_build (V:=.agg (itC ([47,122] ++ [byte (97 + (x.1 : Int))],v62,z.2)).toArray) [(0,1),(1,1)] ([sV [],.slice none 0 0]) rfl rfl (by kernel_rfl) (by kernel_rfl) (.one rfl rfl (by show 0 < 2; decide) rfl (.one rfl ho62 (by show 1 < 2; decide) rfl (.nil _))) rfl) (Lc9 rfl rfl (by decide) (OpT_buildRows (r:=202) [itC ([47,122] ++ [byte (97 + (x.1 : Int))],v62,z.2)] rfl rfl Tryz.runUnderlying24 Tryz.sizeOf38 Tryz.zeroValue38 rfl (by decide) rfl (by decide) (by intro r hr; simp at hr; rw [hr]; rfl) rfl (fun v93 => (Lc9 rfl rfl (by decide) (Oa9 (r:=3) (r2:=202) rfl Tryz.underlying24 TI.hi38 TI.hz38 TI.hs38 TI.hby38 TI.hzs38 (by decide) rfl rfl rfl rfl (fun _ h => rp9 h) (by rw [List.flatten_cons,List.flatten_nil,List.append_nil]; exact itC_one ho62) (by unfold maxLen; omega) (by omega) (fun v94 => ?_))))))))))
     refine Lt9 (P':=rowR itC 2 38 v94 (x.2.2 ++ [([47,122] ++ [byte (97 + (x.1 : Int))],v62,z.2)])) (r:=3) rfl (fun h hp => row_it hp) ?_
     refine (G9 rfl rfl (N9 (X_block (X9 ?_))))
     refine R9 (M9 rfl rfl (L9 rfl (Pn9 rfl rfl rfl (run_add _ _ _ _ _ (by omega))) (G9 rfl rfl (N9 ?_))))
     refine X_join [4,201] 4 (datI (x.2.2 ++ [([47,122] ++ [byte (97 + (x.1 : Int))],v62,z.2)])) rfl (by decide) (fun h hs => datI_add hs) ?_
     exact Xr9 (x.1 + 1,v94,x.2.2 ++ [([47,122] ++ [byte (97 + (x.1 : Int))],v62,z.2)]) ⟨by dsimp only; omega,by dsimp only; omega,by dsimp only; rw [List.length_append,List.length_singleton]; omega,hxs.snoc (by simp) (by dsimp only; omega) (by dsimp only; exact z_ok hlt.2)⟩ (by dsimp only; omega) (a9 rfl) (a9 rfl)
   ·
    refine K9 (X9 ?_)
    refine Q9 (R9 (M9 rfl rfl (M9 rfl rfl (L9 rfl (Pi9 (r:=0) rfl Tryz.runUnderlying22 Tryz.sizeOf97 rfl rfl rfl hF (by omega)) (L9 rfl (Pu_fieldAddrE (off:=1) rfl rfl (by kernel_rfl)) (L9 rfl (Py9 (r:=0) rfl Tryz.isAgg3 rfl rfl hF (fv_size (k:=x.1) hlt.1)) (Lc9 rfl rfl (by decide) (Oc9 200 [0,3,4] [] rfl Tryz.call15 rfl rfl rfl (by decide) (by decide) (within_spec (fs.getD x.1 fv0).2.2.1 1002 (by omega) (by omega) _) (fun v61 Ps61 hR61 => ?_)))))))))
    obtain ⟨rfl,rfl⟩:=hR61
    obtain ⟨q,hq,hq2⟩ : ∃ q : Nat,(fs.getD x.1 fv0).2.2.1 % 1002 = (q : Int) ∧ q < 1002:=⟨((fs.getD x.1 fv0).2.2.1 % 1002).toNat,by omega,by omega⟩
    rw [hq]
    refine (Lc9 rfl rfl (by decide) (OpT_make (r:=201) (m:=q) rfl Tryz.underlying36 TI.hi5 TI.hz5 TI.hs5 rfl rfl (by rw [TI.hby5]; omega) (by unfold maxLen; omega) ((made_one _ _).trans (made_bytes q)) (fun v62 => ?_)))
    refine Lt9 (P':=rowB 5 v62 (List.replicate q 0)) (r:=201) rfl (fun h hp => rowB_mk hp (by rw [List.length_replicate]) rfl) ?_
    refine (G9 rfl rfl (N9 (X9 ?_)))
    refine Q9 (Q9 (R9 (G9 rfl rfl (N9 (X9 ?_)))))
    refine W_block ?_
    refine W_loop (α:=Nat × List UInt8) (fun z => [(0,v),(3,x.2.1),(4,.int .i64 (x.1 : Int)),(5,sV (y.2)),(7,v62),(8,.int .i64 (z.1 : Int))]) (fun z => [(0,F),(3,rowR itC 2 38 x.2.1 x.2.2),(4,datI x.2.2),(201,rowB 5 v62 z.2)]) (fun z => z.2.length = q ∧ z.1 ≤ q) (fun z => q - z.1) ((0,List.replicate q 0)) ⟨List.length_replicate,Nat.zero_le _⟩ (a9 rfl) (a9 rfl) (fun z hz => ?_)
    obtain ⟨hz,hzq⟩:=hz
    refine Q9 (Q9 (R9 (M9 rfl rfl (M9 rfl rfl (L9 rfl (Pl9 (r:=201) rfl Tryz.runUnderlying36 rfl rfl (fun _ h => rp9 h)) (L9 rfl (Pn9 rfl rfl rfl (run_lss _ _ _ _ _ _)) (N9 (X9 ?_))))))))
    refine C9 rfl (fun hc66 => ?_) (fun hc66 => ?_)
    ·
     have hltz : z.1 < z.2.length:=by have:=of_decide_eq_true hc66; omega
     refine K9 (X9 ?_)
     refine Q9 ?_
     refine W_block ?_
     refine W_draw (N:=21) (by kernel_rfl) rfl [(0,_)] ⟨rfl,trivial⟩ ?_
     refine (T9 0 rfl rfl (Pm9 rfl rfl) (T9 1 rfl rfl (Pm9 rfl rfl) (T9 2 rfl rfl (Pm9 rfl rfl) (T9 3 rfl rfl (Pm9 rfl rfl) (T9 4 rfl rfl (Pi9 (r:=0) rfl Tryz.runUnderlying22 Tryz.sizeOf97 rfl rfl rfl hF (by omega)) (T9 5 rfl rfl (Pu_fieldAddrE (off:=2) rfl rfl (by kernel_rfl)) (T9 6 rfl rfl (Py9 (r:=0) rfl Tryz.isAgg5 rfl rfl hF (fv_by (k:=x.1) hlt.1)) (T9 7 rfl rfl (Pm9 rfl rfl) (T9 8 rfl rfl (Pn9 rfl rfl rfl (run_quo _ _ _ _ _ (by omega))) (T9 9 rfl rfl (Pu_conv rfl rfl (conv_byte _ _ Tryz.runUnderlying3 Tryz.runUnderlying5)) (T9 10 rfl rfl (Pm9 rfl rfl) (T9 11 rfl rfl (Pm9 rfl rfl) (T9 12 rfl rfl (Pi9 (r:=0) rfl Tryz.runUnderlying22 Tryz.sizeOf97 rfl rfl rfl hF (by omega)) (T9 13 rfl rfl (Pu_fieldAddrE (off:=1) rfl rfl (by kernel_rfl)) (T9 14 rfl rfl (Py9 (r:=0) rfl Tryz.isAgg3 rfl rfl hF (fv_size (k:=x.1) hlt.1)) (T9 15 rfl rfl (Pn9 rfl rfl rfl (run_tmod _ _ _ _ _ (by omega))) (T9 16 rfl rfl (Pu_conv rfl rfl (conv_byte _ _ Tryz.runUnderlying3 Tryz.runUnderlying5)) (T9 17 rfl rfl (Pn9 rfl rfl rfl (run_mulU8 _ _ _ _ _)) (T9 18 rfl rfl (Pn9 rfl rfl rfl (run_addU8 _ _ _ _ _)) (Y9 [19] ?_))))))))))))))))))))
     refine Z9 rfl rfl (Or9 (Pu_idxS1 (r:=201) rfl Tryz.runUnderlying36 Tryz.sizeOf5 rfl rfl rfl (fun _ h => rp9 h) (by omega)) ⟨⟨rfl,trivial⟩,?_⟩) ?_
     ·
      refine (Y9 [20] ?_)
      refine Ac09 rfl rfl rfl (OpT_storeS1 (r:=201) rfl Tryz.sizeOf5 rfl rfl rfl rfl (by show _ < (bs z.2).length; rw [bs_length]; omega) rfl ?_) ?_
      ·
       refine ⟨⟨rfl,trivial⟩,?_⟩
       refine AH_turn (P':=rowB 5 v62 (z.2.set z.1 ((fs.getD x.1 fv0).2.2.2 + byte ((z.1 : Int) / 64) * byte ((fs.getD x.1 fv0).2.2.1.tmod 3)))) 201 rfl (fun h hp => rowB_mk hp (by rw [List.length_set]) (by rw [← bs_setI]; rfl)) ?_
       refine (Ad9 (by kernel_rfl) (X_block (X9 ?_)))
       refine R9 (M9 rfl rfl (L9 rfl (Pn9 rfl rfl rfl (run_add _ _ _ _ _ (by omega))) (G9 rfl rfl (N9 ?_))))
       exact Xr9 (z.1 + 1,z.2.set z.1 ((fs.getD x.1 fv0).2.2.2 + byte ((z.1 : Int) / 64) * byte ((fs.getD x.1 fv0).2.2.1.tmod 3))) ⟨by dsimp only; rw [List.length_set]; exact hz,by dsimp only; omega⟩ (by dsimp only; omega) (a9 rfl) (a9 rfl)
      exact An9
     exact An9
    ·
     refine W_exit (X_then_exit (X_then_exit (X_block_exit (X9 ?_))))
     refine W_fact (r:=201) rfl (fun h hp => rd_one (rowB_rd h hp)) (fun (ho62 : v62.oneCell' = true) => ?_)
     refine R9 (M9 rfl rfl (M9 rfl rfl (M9 rfl rfl (L9 rfl (Pu_build (V:=.agg (itC (y.2,v62,z.2)).toArray) [(0,1),(1,1)] ([sV [],.slice none 0 0]) rfl rfl (by kernel_rfl) (by kernel_rfl) (.one rfl rfl (by show 0 < 2; decide) rfl (.one rfl ho62 (by show 1 < 2; decide) rfl (.nil _))) rfl) (Lc9 rfl rfl (by decide) (OpT_buildRows (r:=202) [itC (y.2,v62,z.2)] rfl rfl Tryz.runUnderlying24 Tryz.sizeOf38 Tryz.zeroValue38 rfl (by decide) rfl (by decide) (by intro r hr; simp at hr; rw [hr]; rfl) rfl (fun v93 => (Lc9 rfl rfl (by decide) (Oa9 (r:=3) (r2:=202) rfl Tryz.underlying24 TI.hi38 TI.hz38 TI.hs38 TI.hby38 TI.hzs38 (by decide) rfl rfl rfl rfl (fun _ h => rp9 h) (by rw [List.flatten_cons,List.flatten_nil,List.append_nil]; exact itC_one ho62) (by unfold maxLen; omega) (by omega) (fun v94 => ?_))))))))))
     refine Lt9 (P':=rowR itC 2 38 v94 (x.2.2 ++ [(y.2,v62,z.2)])) (r:=3) rfl (fun h hp => row_it hp) ?_
     refine (G9 rfl rfl (N9 (X_block (X9 ?_))))
     refine R9 (M9 rfl rfl (L9 rfl (Pn9 rfl rfl rfl (run_add _ _ _ _ _ (by omega))) (G9 rfl rfl (N9 ?_))))
     refine X_join [4,201] 4 (datI (x.2.2 ++ [(y.2,v62,z.2)])) rfl (by decide) (fun h hs => datI_add hs) ?_
     exact Xr9 (x.1 + 1,v94,x.2.2 ++ [(y.2,v62,z.2)]) ⟨by dsimp only; omega,by dsimp only; omega,by dsimp only; rw [List.length_append,List.length_singleton]; omega,hxs.snoc (by dsimp only; omega) (by dsimp only; omega) (by dsimp only; exact hyp.ok hc49)⟩ (by dsimp only; omega) (a9 rfl) (a9 rfl)
 ·
  refine W_exit (X_then_exit (X_then_exit (X_block_exit (X9 ?_))))
  refine Q9 (R9 (M9 rfl rfl (G9 rfl rfl (N9 (X9 ?_)))))
  refine W_ret ?_
  refine X_join [3,4] 3 (itemsP x.2.1 x.2.2) rfl (by decide) (fun h hs => hs) ?_
  exact Xq9 [3] (Ps:=[_]) (res1 Tryz.results20 rfl) rfl (by decide) ⟨x.2.2,by omega,hxs,rfl⟩
open Go.RowKit
theorem sub_len {α : Type} : ∀ {l m : List α},l.Nodup → (∀ x ∈ l,x ∈ m) → l.length ≤ m.length
  | [],m,_,_ => Nat.zero_le _
  | x :: l,m,hn,hs => by
    obtain ⟨a,b,rfl⟩:=List.append_of_mem (hs x (by simp))
    rw [List.nodup_cons] at hn
    have:=sub_len (l:=l) (m:=a ++ b) hn.2 fun y hy => by
      rcases List.mem_append.1 (hs y (by simp [hy])) with h | h
      · simp [h]
      · rcases List.mem_cons.1 h with rfl | h
        · exact absurd hy hn.1
        · simp [h]
    simp only [List.length_cons,List.length_append] at this ⊢
    omega
theorem innerR_lem {l : List (List UInt8)} (hl : Ids l) : (innerR l).length ≤ 1000:=by
  unfold innerR
  split
  · rename_i h
    have h8 : l.length ≤ 8:=by
      unfold innerE at h
      split at h
      · omega
      · split at h
        · omega
        · omega
    unfold innerTo
    rw [List.take_length,List.length_append,flat_ids hl]
    simp
    omega
  · simp
theorem above_small_b : ∀ (f : Nat) (l : List (List UInt8)),Ids l → ∀ b ∈ (above f l).1,b.length ≤ 1000
  | 0,l,_,b,hb => by rw [above] at hb; cases hb
  | f + 1,l,hl,b,hb => by
    by_cases h1 : 1 < l.length
    · rw [above_big h1] at hb
      rcases List.mem_append.1 hb with hb | hb
      · unfold rowsI at hb
        obtain ⟨j,_,rfl⟩:=List.mem_map.1 hb
        exact innerR_lem fun x hx => hl x (List.mem_of_mem_drop (List.mem_of_mem_take hx))
      · exact above_small_b f _ (ids_sha _) b hb
    · rw [above_small h1] at hb
      cases hb
theorem above_ids : ∀ (f : Nat) (l : List (List UInt8)),Ids l → Ids (above f l).2.2
  | 0,l,h => h
  | f + 1,l,h => by
    by_cases hb : 1 < l.length
    · rw [above_big hb]; exact above_ids f _ (ids_sha _)
    · rw [above_small hb]; exact h
theorem topF_len32 (d : List UInt8) : (topF d).length = 32:=by
  have h:=above_ids (d.length + 1) ((rowsD d).map sha) (ids_sha _)
  unfold topF aboveD
  cases ht : (above (d.length + 1) ((rowsD d).map sha)).2.2 with
  | nil => exact zeroId_length
  | cons x r => rw [ht] at h; exact h x (by simp)
theorem blocksF_small {k : Int} {d b : List UInt8} (hb : b ∈ blocksF k d) : b.length ≤ 1000:=by
  unfold blocksF at hb
  rcases List.mem_append.1 hb with hb | hb
  · rcases List.mem_append.1 hb with hb | hb
    · unfold rowsD at hb
      obtain ⟨j,_,rfl⟩:=List.mem_map.1 hb
      unfold blkD
      rw [List.length_cons,List.length_take]
      omega
    · exact above_small_b _ _ (ids_sha _) b hb
  · rw [List.mem_singleton.1 hb]
    have:=inodeR_len k (d.length : Int) ((aboveD d).2.1 : Int) (topF d) (by rw [topF_len32])
    unfold nodeF
    omega
mutual
theorem blocksT_small : ∀ (T : HT) (b : List UInt8),b ∈ blocksT T → b.length ≤ 1000
  | .mk _ _ _ dirs files,b,hb => by
    rw [blocksT] at hb
    rcases List.mem_append.1 hb with hb | hb
    · rcases List.mem_append.1 hb with hb | hb
      · unfold fileBs at hb
        rw [List.mem_flatten] at hb
        obtain ⟨l,hl,hbl⟩:=hb
        obtain ⟨x,_,rfl⟩:=List.mem_map.1 hl
        exact blocksF_small hbl
      · exact blocksDs_small dirs b hb
    · exact blocksF_small hb
theorem blocksDs_small : ∀ (ds : List (List UInt8 × HT)) (b : List UInt8),b ∈ blocksDs ds → b.length ≤ 1000
  | [],b,hb => by rw [blocksDs] at hb; cases hb
  | d :: ds,b,hb => by
    rw [blocksDs] at hb
    rcases List.mem_append.1 hb with hb | hb
    · exact blocksT_small d.2 b hb
    · exact blocksDs_small ds b hb
end
theorem buildE_wrong {xs : List F3} (h : buildE xs = 0) : xs.length ≤ 20 ∧ ∀ x ∈ xs,wrongI x.1 x.2.2 = 0:=by
  unfold buildE at h
  split at h
  · cases h
  · split at h
    · rename_i h1 h2; exact absurd h h2
    · rename_i h1 h2
      exact ⟨by omega,firstW_zero (by cases hh : decide (firstW xs = 0) with
        | true => exact of_decide_eq_true hh
        | false => exact absurd (of_decide_eq_false hh) h2)⟩
theorem parts_ok {xs : List F3} (h : buildE xs = 0) : (partsN xs).length ≤ 20 ∧ (∀ p ∈ partsN xs,p.2.length ≤ 1000 ∧ p.1.length ≤ 5):=by
  obtain ⟨h1,h2⟩:=buildE_wrong h
  refine ⟨by unfold partsN; rw [List.length_map]; exact h1,fun p hp => ?_⟩
  unfold partsN at hp
  obtain ⟨x,hx,rfl⟩:=List.mem_map.1 hp
  obtain ⟨h3,_,h5⟩:=wrongI_zero (h2 x hx)
  exact ⟨h5,splitN_five h3⟩
theorem tree_len {xs : List F3} {T : HT} (hf : Filled xs T) (h : buildE xs = 0) {l : List TB} (ht : TreeOf (blocksT T) l) : l.length ≤ bnd 5:=by
  obtain ⟨h1,h2⟩:=parts_ok h
  have hr:=rel_dir 4 T _ hf.rel (fun p hp => (h2 p hp).2)
  have hn : (l.map (·.1)).Nodup:=by
    have:=ht.sorted
    refine List.Pairwise.map _ (fun a b hab => ?_) this
    intro hc
    rw [hc,ltK_irrefl] at hab
    cases hab
  have hl:=sub_len (m:=(dirI 5 (partsN xs)).2.map sha) hn fun k hk => by
    obtain ⟨p,hp,rfl⟩:=List.mem_map.1 hk
    obtain ⟨h3,h4,_⟩:=ht.from_ p hp
    rw [h3]
    exact List.mem_map_of_mem (hr.2 _ h4)
  rw [List.length_map,List.length_map] at hl
  exact Nat.le_trans hl (dirI_le 5 _ h1 fun p hp => by have:=(h2 p hp).1; omega)
theorem tree_small {xs : List F3} {T : HT} (hf : Filled xs T) (h : buildE xs = 0) (hxl : xs.length ≤ 20) (hxs : Short3 xs) {l : List TB} (ht : TreeOf (blocksT T) l) {es : List EB} (he : es.map toTB = l) : es.length ≤ 1000000000000 ∧ ∀ b ∈ es,b.2.length ≤ 1000000000:=by
  refine ⟨?_,fun b hb => ?_⟩
  · have h1:=tree_len hf h ht
    have h2:=congrArg List.length he
    rw [List.length_map] at h2
    have h3 : bnd 5 ≤ 1000000000000:=by decide
    omega
  · have : toTB b ∈ l:=by rw [← he]; exact List.mem_map_of_mem hb
    have h3:=(ht.from_ _ this).2.1
    have:=blocksT_small T _ h3
    show (toTB b).2.1.length ≤ _
    omega
open Go.RowKit
theorem splitN_zero {p : List UInt8} (h : (splitN p).2 = 0) (hne : p ≠ [47]) : noPath p = false ∧ allN (splitL (p.drop 1)) = 0 ∧ (splitN p).1 = splitL (p.drop 1):=by
  unfold splitN at h ⊢
  rw [if_neg hne] at h ⊢
  split at h
  · cases h
  · rename_i h1
    split at h
    · rename_i h2; exact absurd h h2
    · rename_i h2
      rw [if_neg h1,if_neg h2]
      exact ⟨by simpa using h1,Classical.byContradiction h2,rfl⟩
theorem jn_drop {ls : List (List UInt8)} (h : ls ≠ []) : (jn ls).drop 1 = joinL ls:=by rw [jn_join h]; rfl
theorem pathOk_split {p : List UInt8} (hp : PathOk p) (h : (splitN p).2 = 0) : ∃ ls,ls ≠ [] ∧ (∀ n ∈ ls,n.length ≤ 2 ∧ (47 : UInt8) ∉ n ∧ n ≠ []) ∧ p = jn ls ∧ (splitN p).1 = ls ∧ allN ls = 0:=by
  obtain ⟨ls,h1,h2,rfl⟩:=hp
  have hne : jn ls ≠ [47]:=fun hc => by
    match ls,h1,h2 with
    | n :: r,_,h2 =>
      have h3:=(h2 n (by simp)).2.2
      have h4:=congrArg List.length hc
      have h5 : 0 < n.length:=List.length_pos_iff.2 h3
      simp [jn] at h4
      exact h3 h4.1
  obtain ⟨a1,a2,a3⟩:=splitN_zero h hne
  rw [jn_drop h1,splitL_join h1 (fun x hx => (h2 x hx).2.1)] at a2 a3
  exact ⟨ls,h1,h2,rfl,a3,a2⟩
theorem count_jn : ∀ {ls : List (List UInt8)},(∀ n ∈ ls,(47 : UInt8) ∉ n) → (jn ls).count 47 = ls.length
  | [],_ => rfl
  | n :: r,h => by
    have e : jn (n :: r) = 47 :: (n ++ jn r):=by simp [jn]
    rw [e,List.count_cons_self,List.count_append,List.count_eq_zero.2 (h n (by simp)),count_jn fun x hx => h x (by simp [hx])]
    simp
theorem split_more {ls : List (List UInt8)} (h1 : ls ≠ []) (h2 : ∀ n ∈ ls,(47 : UInt8) ∉ n) (h3 : allN ls = 0) (h4 : ls.length < 5) : splitN (jn ls ++ [47,120]) = (ls ++ [[120]],0):=by
  have e : jn ls ++ [47,120] = jn (ls ++ [[120]]):=by simp [jn]
  have hne2 : ls ++ [[120]] ≠ []:=by simp
  have hsp : splitL ((jn (ls ++ [[120]])).drop 1) = ls ++ [[120]]:=by
    rw [jn_drop hne2]
    refine splitL_join hne2 fun x hx => ?_
    rcases List.mem_append.1 hx with hx | hx
    · exact h2 x hx
    · rw [List.mem_singleton.1 hx]; decide
  have hall : allN (ls ++ [[120]]) = 0:=by
    unfold allN at h3 ⊢
    rw [if_neg (by rw [List.length_append,List.length_singleton]; omega)]
    rw [if_neg (by omega)] at h3
    refine firstBad_all fun x hx => ?_
    rcases List.mem_append.1 hx with hx | hx
    · exact firstBad_zero h3 x hx
    · rw [List.mem_singleton.1 hx]; decide
  have hnp : noPath (jn ls ++ [47,120]) = false:=by
    unfold noPath
    have e1 : ([47] : List UInt8).isPrefixOf (jn ls ++ [47,120]) = true:=by
      rw [e,jn_join hne2]
      simp [List.isPrefixOf]
    have e2 : ([47] : List UInt8).isSuffixOf (jn ls ++ [47,120]) = false:=by
      unfold List.isSuffixOf
      simp [List.isPrefixOf]
    rw [e1,e2]
    rfl
  have hn47 : jn ls ++ [47,120] ≠ [47]:=fun hc => by
    have:=congrArg List.length hc
    simp at this
  unfold splitN
  rw [if_neg hn47,hnp,e,hsp,hall]
  rfl
theorem parts_good {xs : List F3} (h : buildE xs = 0) : PsGood (partsN xs):=by
  obtain ⟨h1,h2⟩:=buildE_wrong h
  refine ⟨by unfold partsN; rw [List.length_map]; exact h1,fun p hp n hn => ?_,fun p hp => ((parts_ok h).2 p hp).1⟩
  unfold partsN at hp
  obtain ⟨x,hx,rfl⟩:=List.mem_map.1 hp
  obtain ⟨h3,h4,_⟩:=wrongI_zero (h2 x hx)
  by_cases hne : x.1 = [47]
  · have : pathOf x = []:=by unfold pathOf splitN; rw [if_pos hne]
    exact absurd this h4
  · obtain ⟨_,a2,a3⟩:=splitN_zero h3 hne
    have hn' : n ∈ splitL (x.1.drop 1):=by rw [← a3]; exact hn
    unfold allN at a2
    split at a2
    · cases a2
    · exact firstBad_zero a2 n hn'
structure Whole3 (xs : List F3) (T : HT) (V : VW) : Prop where
  rel : Rel T (partsN xs)
  good : PsGood (partsN xs)
  has : HasT V T
theorem whole3 {xs : List F3} {T : HT} {l : List TB} (hb : buildE xs = 0) (hf : Filled xs T) (ht : TreeOf (blocksT T) l) (hm : (putsT ([],false) (dirI 5 (partsN xs)).2).2 = false) : Whole3 xs T (viewT l):=by
  have hrd:=rel_dir 4 T _ hf.rel (fun p hp => ((parts_ok hb).2 p hp).2)
  exact ⟨hf.rel,parts_good hb,fun b hbm => viewT_built ht ((putsT_apart hm).sub hrd.2) hbm⟩
section
variable {xs : List F3} {T : HT} {V : VW} (hw : Whole3 xs T V) (hb : buildE xs = 0) (hs : Short3 xs) {x : F3} (hx : x ∈ xs)
include hw hb hs hx
theorem part_mem : (pathOf x,x.2.2) ∈ partsN xs:=List.mem_map_of_mem (f:=fun x : F3 => (pathOf x,x.2.2)) hx
theorem path_file : (splitN x.1).2 = 0 ∧ pathV V (idT T) x.1 = (ndF 1 x.2.2,0):=by
  obtain ⟨h3,_,_⟩:=wrongI_zero ((buildE_wrong hb).2 x hx)
  refine ⟨h3,?_⟩
  rw [pathV_T hw.rel hw.good hw.has,if_neg (fun h => h h3)]
  have:=findT_part (pathOf x) x.2.2 T _ hw.rel (part_mem hw hb hs hx) []
  rw [List.append_nil,if_pos rfl] at this
  exact this
theorem list_file : listV V (idT T) x.1 = ([],3):=by
  obtain ⟨_,h2⟩:=path_file hw hb hs hx
  unfold listV
  rw [h2,if_neg (fun h => h rfl)]
  have hk : dirV V (ndF 1 x.2.2) = ([],3):=by unfold dirV; rw [if_pos (by show ¬ (1 : Int) = 2; decide)]
  rw [hk,if_pos (by decide)]
  rfl
theorem path_beyond (h5 : x.1.count 47 < 5) : pathV V (idT T) (x.1 ++ [47,120]) = (nd0,3):=by
  obtain ⟨h3,_,_⟩:=wrongI_zero ((buildE_wrong hb).2 x hx)
  obtain ⟨ls,a1,a2,a3,a4,a5⟩:=pathOk_split (hs x hx).2.2 h3
  have hc : x.1.count 47 = ls.length:=by rw [a3]; exact count_jn fun n hn => (a2 n hn).2.1
  rw [pathV_T hw.rel hw.good hw.has,a3,split_more a1 (fun n hn => (a2 n hn).2.1) a5 (by omega),if_neg (fun h => h rfl)]
  have hp : pathOf x = ls:=a4
  have:=findT_part (pathOf x) x.2.2 T _ hw.rel (part_mem hw hb hs hx) [[120]]
  rw [hp,if_neg (by simp)] at this
  exact this
end
theorem root_read {xs : List F3} {T : HT} {V : VW} (hw : Whole3 xs T V) : (readV V (idT T) [47] 0 1).2 = 3:=by
  have hp : pathV V (idT T) [47] = (ndF 2 (dirR (esT T)),0):=by
    rw [pathV_T hw.rel hw.good hw.has]
    have : splitN [47] = ([],0):=by unfold splitN; rw [if_pos rfl]
    rw [this,if_neg (fun h => h rfl)]
    rfl
  unfold readV
  rw [hp,if_neg (fun h => h rfl),if_pos (by show ¬ (2 : Int) = 1; decide)]
def nobody : List UInt8:=[110,111,98,111,100,121,32,104,101,114,101]
theorem none_here {xs : List F3} {T : HT} {V : VW} (hw : Whole3 xs T V) (hb : buildE xs = 0) (hs : Short3 xs) : (pathV V (idT T) (47 :: nobody)).2 = 2:=by
  have hsp : splitN (47 :: nobody) = ([nobody],0):=by decide
  have hshort : ∀ p ∈ partsN xs,∀ n ∈ p.1,n.length ≤ 2:=fun p hp n hn => by
    unfold partsN at hp
    obtain ⟨x,hx,rfl⟩:=List.mem_map.1 hp
    obtain ⟨h3,_,_⟩:=wrongI_zero ((buildE_wrong hb).2 x hx)
    obtain ⟨ls,a1,a2,a3,a4,a5⟩:=pathOk_split (hs x hx).2.2 h3
    have : n ∈ ls:=by rw [← a4]; exact hn
    exact (a2 n this).1
  rw [pathV_T hw.rel hw.good hw.has,hsp,if_neg (fun h => h rfl)]
  obtain ⟨g,gd,gf,dirs,files⟩:=T
  have h1 : lookA nobody files = none:=lookA_none.2 fun h => by
    obtain ⟨y,hy,he⟩:=List.mem_map.1 h
    have:=hshort _ (rel_file hw.rel hy) y.1 (by simp)
    rw [he] at this
    exact absurd this (by decide)
  have h2 : lookA nobody dirs = none:=lookA_none.2 fun h => by
    obtain ⟨y,hy,he⟩:=List.mem_map.1 h
    obtain ⟨_,k,q,d,hm⟩:=rel_sub hw.rel hy
    have:=hshort _ hm y.1 (by simp)
    rw [he] at this
    exact absurd this (by decide)
  rw [findT,h1,h2]
open Go.RowKit
set_option maxRecDepth 8000
def Crs (es os : List EB) : Prop:=∀ e ∈ es,∀ o ∈ os,e.1.key = o.1.key → e.2 = o.2
theorem crs_in {os : List EB} {e o : EB} {y : Nat} (h : ∀ q ∈ os.take y,e.1.key = q.1.key → e.2 = q.2) (ho : os[y]? = some o) (h2 : e.1.key = o.1.key → e.2 = o.2) : ∀ q ∈ os.take (y + 1),e.1.key = q.1.key → e.2 = q.2:=fun q hq => by
  rw [take_snoc2 ho] at hq
  rcases List.mem_append.1 hq with hq | hq
  · exact h q hq
  · rw [List.mem_singleton.1 hq]; exact h2
theorem crs_out {es os : List EB} {e : EB} {x : Nat} (h : Crs (es.take x) os) (he : es[x]? = some e) (h2 : ∀ q ∈ os,e.1.key = q.1.key → e.2 = q.2) : Crs (es.take (x + 1)) os:=fun q hq => by
  rw [take_snoc2 he] at hq
  rcases List.mem_append.1 hq with hq | hq
  · exact h q hq
  · rw [List.mem_singleton.1 hq]; exact h2
structure NoMeet (xa xb : List F3) : Prop where
  left : (putsT ([],false) (dirI 5 (partsN xa)).2).2 = false
  right : (putsT ([],false) (dirI 5 (partsN xb)).2).2 = false
  cross : ∀ p ∈ (putsT ([],false) (dirI 5 (partsN xa)).2).1,∀ q ∈ (putsT ([],false) (dirI 5 (partsN xb)).2).1,p.1 = q.1 → p.2.1 = q.2.1
theorem noMeet {xa xb : List F3} {es os : List EB} {la lb : List TB} (h1 : (la,false) = putsT ([],false) (dirI 5 (partsN xa)).2) (h2 : (lb,false) = putsT ([],false) (dirI 5 (partsN xb)).2) (he : es.map toTB = la) (ho : os.map toTB = lb) (hc : Crs es os) : NoMeet xa xb:=by
  refine ⟨by rw [← h1],by rw [← h2],fun p hp q hq hk => ?_⟩
  rw [← h1,← he] at hp
  rw [← h2,← ho] at hq
  obtain ⟨e,hem,rfl⟩:=List.mem_map.1 hp
  obtain ⟨o,hom,rfl⟩:=List.mem_map.1 hq
  exact hc e hem o hom hk
theorem ref_len {xs : List F3} (hb : buildE xs = 0) {l : List TB} {m : Bool} (h : (l,m) = putsT ([],false) (dirI 5 (partsN xs)).2) {es : List EB} (he : es.map toTB = l) : es.length ≤ 1000000000000:=by
  have h1:=putsT_len ([],false) (dirI 5 (partsN xs)).2
  obtain ⟨h2,h3⟩:=parts_ok hb
  have h4:=dirI_le 5 (partsN xs) h2 (fun p hp => by have:=(h3 p hp).1; omega)
  have h5 : bnd 5 ≤ 1000000000000:=by decide
  rw [← h] at h1
  have h6:=congrArg List.length he
  rw [List.length_map] at h6
  simp at h1
  omega
theorem met_spec (va vb : Value) (es os : List EB) (hen : es.length ≤ 1000000000000) (hon : os.length ≤ 1000000000000) (F : HP) (hA : ∀ h,F h → rdP 35 va es.length (recC bvC (es.map (fun p : EB => p.1))) h) (hDA : ∀ h,F h → datE es h) (hB : ∀ h,F h → rdP 35 vb os.length (recC bvC (os.map (fun p : EB => p.1))) h) (hDB : ∀ h,F h → datE os h) : CallsS Tryz.prog 42 #[va,vb] F [] (fun r Ps => Ps = [] ∧ ∃ b : Bool,r = .bool b ∧ (b = false → Crs es os)):=by
 refine callsS_enter Tryz.func42 rfl Tryz.ntmps42 (by simp) (fun E => ?_)
 refine Q9 (R9 (G9 rfl rfl (N9 (X9 (Q9 (Q9 (R9 (G9 rfl rfl (N9 (X9 ?_))))))))))
 refine W_block ?_
 refine W_loop (α:=Nat) (fun x => [(0,va),(1,vb),(5,.int .i64 (x : Int))]) (fun x => [(0,F)]) (fun x => x ≤ es.length ∧ Crs (es.take x) os) (fun x => es.length - x) (0) ⟨Nat.zero_le _,fun e he => by simp at he⟩ (a9 rfl) ⟨rfl,trivial⟩ (fun x hx => ?_)
 obtain ⟨hx,hxc⟩:=hx
 refine Q9 (Q9 (R9 (M9 rfl rfl (M9 rfl rfl (L9 rfl (Pl9 (r:=0) rfl Tryz.runUnderlying27 rfl rfl hA) (L9 rfl (Pn9 rfl rfl rfl (run_lss _ _ _ _ _ _)) (N9 (X9 ?_))))))))
 refine C9 rfl (fun hc10 => ?_) (fun hc10 => ?_)
 ·
  have hlt : x < es.length:=by have:=of_decide_eq_true hc10; omega
  obtain ⟨e,he⟩ : ∃ e,es[x]? = some e:=⟨_,List.getElem?_eq_getElem hlt⟩
  have hed : ∀ h,F h → rdB e.1.sl e.2 h:=fun h hp => hDA h hp e (List.mem_of_getElem? he)
  refine K9 (X9 ?_)
  refine Q9 ?_
  refine W_block ?_
  refine Q9 (R9 (G9 rfl rfl (N9 (X9 ?_))))
  refine W_block ?_
  refine W_loop (α:=Nat) (fun y => [(0,va),(1,vb),(5,.int .i64 (x : Int)),(6,.int .i64 (y : Int))]) (fun y => [(0,F)]) (fun y => y ≤ os.length ∧ (∀ q ∈ os.take y,e.1.key = q.1.key → e.2 = q.2)) (fun y => os.length - y) (0) ⟨Nat.zero_le _,fun q hq => by simp at hq⟩ (a9 rfl) ⟨rfl,trivial⟩ (fun y hy => ?_)
  obtain ⟨hy,hyc⟩:=hy
  refine Q9 (Q9 (R9 (M9 rfl rfl (M9 rfl rfl (L9 rfl (Pl9 (r:=0) rfl Tryz.runUnderlying27 rfl rfl hB) (L9 rfl (Pn9 rfl rfl rfl (run_lss _ _ _ _ _ _)) (N9 (X9 ?_))))))))
  refine C9 rfl (fun hc16 => ?_) (fun hc16 => ?_)
  ·
   have hlt2 : y < os.length:=by have:=of_decide_eq_true hc16; omega
   obtain ⟨o,ho⟩ : ∃ o,os[y]? = some o:=⟨_,List.getElem?_eq_getElem hlt2⟩
   have hod : ∀ h,F h → rdB o.1.sl o.2 h:=fun h hp => hDB h hp o (List.mem_of_getElem? ho)
   refine K9 (X9 ?_)
   refine Q9 ?_
   refine W_block ?_
   refine Q9 ?_
   rcases Bool.eq_false_or_eq_true (e.1.key == o.1.key) with hsp7 | hsp7
   ·
    refine W_draw (N:=26) (by kernel_rfl) rfl [(0,_)] ⟨rfl,trivial⟩ ?_
    refine (T9 0 rfl rfl (Pm9 rfl rfl) (T9 1 rfl rfl (Pm9 rfl rfl) (T9 2 rfl rfl (Pi9 (r:=0) rfl Tryz.runUnderlying27 Tryz.sizeOf59 rfl rfl rfl hA (by omega)) (T9 3 rfl rfl (Pu_fieldAddrE (off:=0) rfl rfl (by kernel_rfl)) (T9 4 rfl rfl (Pz9 (r:=0) rfl Tryz.isAgg29 Tryz.sizeOf29 rfl rfl hA ((bs_length _).trans e.1.len) (by decide) (eb_key (k:=x) he)) (T9 5 rfl rfl (Pm9 rfl rfl) (T9 6 rfl rfl (Pm9 rfl rfl) (T9 7 rfl rfl (Pi9 (r:=0) rfl Tryz.runUnderlying27 Tryz.sizeOf59 rfl rfl rfl hB (by omega)) (T9 8 rfl rfl (Pu_fieldAddrE (off:=0) rfl rfl (by kernel_rfl)) (T9 9 rfl rfl (Pz9 (r:=0) rfl Tryz.isAgg29 Tryz.sizeOf29 rfl rfl hB ((bs_length _).trans o.1.len) (by decide) (eb_key (k:=y) ho)) (T9 10 rfl rfl (Pn9 rfl rfl rfl (run_idEq _ _ e.1.len o.1.len _ _)) (T9 11 rfl rfl (Pm9 rfl rfl) (AH_takeT 12 rfl (by kernel_rfl) (by kernel_rfl) (by kernel_rfl) rfl rfl rfl (by rw [hsp7]; rfl) rfl (by decide) (Pm9 rfl rfl) (AH_takeT 13 rfl (by kernel_rfl) (by kernel_rfl) (by kernel_rfl) rfl rfl rfl (by rw [hsp7]; rfl) rfl (by decide) (Pm9 rfl rfl) (AH_takeT 14 rfl (by kernel_rfl) (by kernel_rfl) (by kernel_rfl) rfl rfl rfl (by rw [hsp7]; rfl) rfl (by decide) (Pi9 (r:=0) rfl Tryz.runUnderlying27 Tryz.sizeOf59 rfl rfl rfl hA (by omega)) (AH_takeT 15 rfl (by kernel_rfl) (by kernel_rfl) (by kernel_rfl) rfl rfl rfl (by rw [hsp7]; rfl) rfl (by decide) (Pu_fieldAddrE (off:=32) rfl rfl (by kernel_rfl)) (AH_takeT 16 rfl (by kernel_rfl) (by kernel_rfl) (by kernel_rfl) rfl rfl rfl (by rw [hsp7]; rfl) rfl (by decide) (Py9 (r:=0) rfl Tryz.isAgg36 rfl rfl hA (eb_data (k:=x) he)) (AH_takeT 17 rfl (by kernel_rfl) (by kernel_rfl) (by kernel_rfl) rfl rfl rfl (by rw [hsp7]; rfl) rfl (by decide) (Pu_convBS (r:=0) rfl Tryz.underlying36 Tryz.underlying5 Tryz.underlying9 rfl rfl hed) (AH_takeT 18 rfl (by kernel_rfl) (by kernel_rfl) (by kernel_rfl) rfl rfl rfl (by rw [hsp7]; rfl) rfl (by decide) (Pm9 rfl rfl) (AH_takeT 19 rfl (by kernel_rfl) (by kernel_rfl) (by kernel_rfl) rfl rfl rfl (by rw [hsp7]; rfl) rfl (by decide) (Pm9 rfl rfl) (AH_takeT 20 rfl (by kernel_rfl) (by kernel_rfl) (by kernel_rfl) rfl rfl rfl (by rw [hsp7]; rfl) rfl (by decide) (Pi9 (r:=0) rfl Tryz.runUnderlying27 Tryz.sizeOf59 rfl rfl rfl hB (by omega)) (AH_takeT 21 rfl (by kernel_rfl) (by kernel_rfl) (by kernel_rfl) rfl rfl rfl (by rw [hsp7]; rfl) rfl (by decide) (Pu_fieldAddrE (off:=32) rfl rfl (by kernel_rfl)) (AH_takeT 22 rfl (by kernel_rfl) (by kernel_rfl) (by kernel_rfl) rfl rfl rfl (by rw [hsp7]; rfl) rfl (by decide) (Py9 (r:=0) rfl Tryz.isAgg36 rfl rfl hB (eb_data (k:=y) ho)) (AH_takeT 23 rfl (by kernel_rfl) (by kernel_rfl) (by kernel_rfl) rfl rfl rfl (by rw [hsp7]; rfl) rfl (by decide) (Pu_convBS (r:=0) rfl Tryz.underlying36 Tryz.underlying5 Tryz.underlying9 rfl rfl hod) (AH_takeT 24 rfl (by kernel_rfl) (by kernel_rfl) (by kernel_rfl) rfl rfl rfl (by rw [hsp7]; rfl) rfl (by decide) (Pn9 rfl rfl rfl (run_strNe _ _ _ _ _)) (T9 25 rfl rfl (Pu_pickT rfl rfl hsp7 rfl) (Ad9 (by kernel_rfl) (X9 ?_))))))))))))))))))))))))))))
    refine C9 rfl (fun hc44 => ?_) (fun hc44 => ?_)
    ·
     refine Q9 (R9 (G9 rfl rfl (N9 (X9 ?_))))
     refine W_ret (X_block_ret (X_then_ret (X_then_ret (X_block_ret (X_block_ret (X_then_ret (X_then_ret (X_block_ret (X_then_ret ?_)))))))))
     exact Xq9 [] (Ps:=[]) (res1 Tryz.results42 rfl) rfl (by decide) ⟨rfl,_,rfl,fun h => by cases h⟩
    ·
     refine K9 (X_block (X9 ?_))
     refine R9 (M9 rfl rfl (L9 rfl (Pn9 rfl rfl rfl (run_add _ _ _ _ _ (by omega))) (G9 rfl rfl (N9 ?_))))
     exact Xr9 (y + 1) ⟨by omega,crs_in hyc ho (fun hk => by simpa using hc44)⟩ (by omega) (a9 rfl) ⟨rfl,trivial⟩
   ·
    refine W_draw (N:=26) (by kernel_rfl) rfl [(0,_)] ⟨rfl,trivial⟩ ?_
    refine (T9 0 rfl rfl (Pm9 rfl rfl) (T9 1 rfl rfl (Pm9 rfl rfl) (T9 2 rfl rfl (Pi9 (r:=0) rfl Tryz.runUnderlying27 Tryz.sizeOf59 rfl rfl rfl hA (by omega)) (T9 3 rfl rfl (Pu_fieldAddrE (off:=0) rfl rfl (by kernel_rfl)) (T9 4 rfl rfl (Pz9 (r:=0) rfl Tryz.isAgg29 Tryz.sizeOf29 rfl rfl hA ((bs_length _).trans e.1.len) (by decide) (eb_key (k:=x) he)) (T9 5 rfl rfl (Pm9 rfl rfl) (T9 6 rfl rfl (Pm9 rfl rfl) (T9 7 rfl rfl (Pi9 (r:=0) rfl Tryz.runUnderlying27 Tryz.sizeOf59 rfl rfl rfl hB (by omega)) (T9 8 rfl rfl (Pu_fieldAddrE (off:=0) rfl rfl (by kernel_rfl)) (T9 9 rfl rfl (Pz9 (r:=0) rfl Tryz.isAgg29 Tryz.sizeOf29 rfl rfl hB ((bs_length _).trans o.1.len) (by decide) (eb_key (k:=y) ho)) (T9 10 rfl rfl (Pn9 rfl rfl rfl (run_idEq _ _ e.1.len o.1.len _ _)) (T9 11 rfl rfl (Pm9 rfl rfl) (AH_takeF 12 rfl (by kernel_rfl) (by kernel_rfl) (by kernel_rfl) rfl rfl rfl (by rw [hsp7]; rfl) rfl (by decide) (AH_takeF 13 rfl (by kernel_rfl) (by kernel_rfl) (by kernel_rfl) rfl rfl rfl (by rw [hsp7]; rfl) rfl (by decide) (AH_takeF 14 rfl (by kernel_rfl) (by kernel_rfl) (by kernel_rfl) rfl rfl rfl (by rw [hsp7]; rfl) rfl (by decide) (AH_takeF 15 rfl (by kernel_rfl) (by kernel_rfl) (by kernel_rfl) rfl rfl rfl (by rw [hsp7]; rfl) rfl (by decide) (AH_takeF 16 rfl (by kernel_rfl) (by kernel_rfl) (by kernel_rfl) rfl rfl rfl (by rw [hsp7]; rfl) rfl (by decide) (AH_takeF 17 rfl (by kernel_rfl) (by kernel_rfl) (by kernel_rfl) rfl rfl rfl (by rw [hsp7]; rfl) rfl (by decide) (AH_takeF 18 rfl (by kernel_rfl) (by kernel_rfl) (by kernel_rfl) rfl rfl rfl (by rw [hsp7]; rfl) rfl (by decide) (AH_takeF 19 rfl (by kernel_rfl) (by kernel_rfl) (by kernel_rfl) rfl rfl rfl (by rw [hsp7]; rfl) rfl (by decide) (AH_takeF 20 rfl (by kernel_rfl) (by kernel_rfl) (by kernel_rfl) rfl rfl rfl (by rw [hsp7]; rfl) rfl (by decide) (AH_takeF 21 rfl (by kernel_rfl) (by kernel_rfl) (by kernel_rfl) rfl rfl rfl (by rw [hsp7]; rfl) rfl (by decide) (AH_takeF 22 rfl (by kernel_rfl) (by kernel_rfl) (by kernel_rfl) rfl rfl rfl (by rw [hsp7]; rfl) rfl (by decide) (AH_takeF 23 rfl (by kernel_rfl) (by kernel_rfl) (by kernel_rfl) rfl rfl rfl (by rw [hsp7]; rfl) rfl (by decide) (AH_takeF 24 rfl (by kernel_rfl) (by kernel_rfl) (by kernel_rfl) rfl rfl rfl (by rw [hsp7]; rfl) rfl (by decide) (T9 25 rfl rfl (Pu_pickF rfl rfl hsp7 rfl) (Ad9 (by kernel_rfl) (X9 ?_))))))))))))))))))))))))))))
    refine W_false rfl (rfl) ?_
    refine K9 (X_block (X9 ?_))
    refine R9 (M9 rfl rfl (L9 rfl (Pn9 rfl rfl rfl (run_add _ _ _ _ _ (by omega))) (G9 rfl rfl (N9 ?_))))
    exact Xr9 (y + 1) ⟨by omega,crs_in hyc ho (fun hk => by rw [hk] at hsp7; simp at hsp7)⟩ (by omega) (a9 rfl) ⟨rfl,trivial⟩
  ·
   have hge2 : os.length ≤ y:=by have:=of_decide_eq_false hc16; omega
   rw [List.take_of_length_le hge2] at hyc
   refine W_exit (X_then_exit (X_then_exit (X_block_exit (X_block (X9 ?_)))))
   refine R9 (M9 rfl rfl (L9 rfl (Pn9 rfl rfl rfl (run_add _ _ _ _ _ (by omega))) (G9 rfl rfl (N9 ?_))))
   exact Xr9 (x + 1) ⟨by omega,crs_out hxc he hyc⟩ (by omega) (a9 rfl) ⟨rfl,trivial⟩
 ·
  have hge : es.length ≤ x:=by have:=of_decide_eq_false hc10; omega
  rw [List.take_of_length_le hge] at hxc
  refine W_exit (X_then_exit (X_then_exit (X_block_exit (X9 ?_))))
  refine Q9 (R9 (G9 rfl rfl (N9 (X9 ?_))))
  refine W_ret ?_
  exact Xq9 [] (Ps:=[]) (res1 Tryz.results42 rfl) rfl (by decide) ⟨rfl,_,rfl,fun _ => hxc⟩
theorem meets_spec (va vb : Value) (xa xb : List F3) (hba : buildE xa = 0) (hbb : buildE xb = 0) (hlna : xa.length ≤ 1000000000000) (hlnb : xb.length ≤ 1000000000000) (hsha : ∀ x ∈ xa,x.1.length ≤ 900000 ∧ x.2.2.length ≤ 100000000000) (hshb : ∀ x ∈ xb,x.1.length ≤ 900000 ∧ x.2.2.length ≤ 100000000000) (F : HP) (hA : ∀ h,F h → rdIt va xa h) (hDA : ∀ h,F h → datI xa h) (hB : ∀ h,F h → rdIt vb xb h) (hDB : ∀ h,F h → datI xb h) : CallsS Tryz.prog 18 #[va,vb] F [] (fun r Ps => Ps = [] ∧ ∃ m : Bool,r = .bool m ∧ (m = false → NoMeet xa xb)):=by
 refine callsS_enter Tryz.func18 rfl Tryz.ntmps18 (by simp) (fun E => ?_)
 refine Q9 (R9 (G9 rfl rfl (N9 (X9 (Q9 (R9 (M9 rfl rfl (Lc9 rfl rfl (by decide) (Oc9 200 [0] [] rfl Tryz.call21 rfl rfl rfl (by decide) (by decide) (refBuild_spec va xa hlna hsha _ (rs9 0 rfl hA) (datI_star 0 rfl hDA)) (fun v11 Ps11 hR11 => ?_))))))))))
 obtain ⟨wa,ida,ma,la,rfl,rfl,hida,hvoa,hga,_⟩:=hR11
 skip
 have hga2:=(hga hba).1
 refine (M9 rfl rfl (L9 rfl (Pe9 rfl rfl rfl) (L9 rfl (Pe9 rfl rfl rfl) (Lc9 rfl rfl (by decide) (OpT_alloc (r:=201) (cs:=(refC (.slice none 0 0) zeroId false)) rfl (zero_run (by kernel_rfl : (Tryz.prog.info? 50).bind (·.zero) = some (.agg (refC (.slice none 0 0) zeroId false).toArray))) rfl (fun g201 => (Lc09 rfl rfl (OpT_storeAll (r:=201) rfl Tryz.sizeOf50 rfl rfl rfl (refC_len zeroId_length) (refC_len hida) (refC_one hvoa) ?_))))))))
 refine (G9 rfl rfl (N9 (X9 ?_)))
 refine Q9 ?_
 refine W_openTree 200 2000 rfl (fun es hes => ?_)
 rcases Bool.eq_false_or_eq_true (ma) with hsp2 | hsp2
 ·
  subst hsp2
  refine R9 (M9 rfl rfl (Lc9 rfl rfl (by decide) (Oc9 2100 [0,201,2000,2001] [] rfl Tryz.call21 rfl rfl rfl (by decide) (by decide) (refBuild_spec vb xb hlnb hshb _ (rs9 0 rfl hB) (datI_star 0 rfl hDB)) (fun v16 Ps16 hR16 => ?_))))
  obtain ⟨wb,idb,mb,lb,rfl,rfl,hidb,hvob,hgb,_⟩:=hR16
  skip
  have hgb2:=(hgb hbb).1
  refine (M9 rfl rfl (L9 rfl (Pe9 rfl rfl rfl) (L9 rfl (Pe9 rfl rfl rfl) (Lc9 rfl rfl (by decide) (OpT_alloc (r:=2101) (cs:=(refC (.slice none 0 0) zeroId false)) rfl (zero_run (by kernel_rfl : (Tryz.prog.info? 50).bind (·.zero) = some (.agg (refC (.slice none 0 0) zeroId false).toArray))) rfl (fun g2101 => (Lc09 rfl rfl (OpT_storeAll (r:=2101) rfl Tryz.sizeOf50 rfl rfl rfl (refC_len zeroId_length) (refC_len hidb) (refC_one hvob) ?_))))))))
  refine (G9 rfl rfl (N9 (X9 ?_)))
  refine Q9 ?_
  refine W_openTree 2100 3000 rfl (fun os hos => ?_)
  rcases Bool.eq_false_or_eq_true (mb) with hsp3 | hsp3
  ·
   subst hsp3
   refine R9 (L9 rfl (F9 33 rfl rfl) (L9 rfl (Pb9 (r:=201) rfl Tryz.isAgg4 rfl rfl (refC_met hida)) (M9 rfl rfl (WL_gF rfl rfl rfl rfl rfl (by decide) (WL_gF rfl rfl rfl rfl rfl (by decide) (L9 rfl (Pu_pickT rfl rfl rfl rfl) (M9 rfl rfl (WL_gF rfl rfl rfl rfl rfl (by decide) (WL_gF rfl rfl rfl rfl rfl (by decide) (WL_gF rfl rfl rfl rfl rfl (by decide) (WL_gF rfl rfl rfl rfl rfl (by decide) (WL_gF rfl rfl rfl rfl rfl (by decide) (L9 rfl (Pu_pickT rfl rfl rfl rfl) (G9 rfl rfl (N9 (X9 ?_))))))))))))))))
   refine W_ret ?_
   exact Xq9 [] (Ps:=[]) (res1 Tryz.results18 rfl) rfl (by decide) ⟨rfl,true,rfl,fun h => by cases h⟩
  ·
   subst hsp3
   refine R9 (L9 rfl (F9 33 rfl rfl) (L9 rfl (Pb9 (r:=201) rfl Tryz.isAgg4 rfl rfl (refC_met hida)) (M9 rfl rfl (WL_gF rfl rfl rfl rfl rfl (by decide) (WL_gF rfl rfl rfl rfl rfl (by decide) (L9 rfl (Pu_pickT rfl rfl rfl rfl) (M9 rfl rfl (WL_gF rfl rfl rfl rfl rfl (by decide) (WL_gF rfl rfl rfl rfl rfl (by decide) (WL_gF rfl rfl rfl rfl rfl (by decide) (WL_gF rfl rfl rfl rfl rfl (by decide) (WL_gF rfl rfl rfl rfl rfl (by decide) (L9 rfl (Pu_pickT rfl rfl rfl rfl) (G9 rfl rfl (N9 (X9 ?_))))))))))))))))
   refine W_ret ?_
   exact Xq9 [] (Ps:=[]) (res1 Tryz.results18 rfl) rfl (by decide) ⟨rfl,true,rfl,fun h => by cases h⟩
 ·
  subst hsp2
  refine R9 (M9 rfl rfl (Lc9 rfl rfl (by decide) (Oc9 2100 [0,201,2000,2001] [] rfl Tryz.call21 rfl rfl rfl (by decide) (by decide) (refBuild_spec vb xb hlnb hshb _ (rs9 0 rfl hB) (datI_star 0 rfl hDB)) (fun v16 Ps16 hR16 => ?_))))
  obtain ⟨wb,idb,mb,lb,rfl,rfl,hidb,hvob,hgb,_⟩:=hR16
  skip
  have hgb2:=(hgb hbb).1
  refine (M9 rfl rfl (L9 rfl (Pe9 rfl rfl rfl) (L9 rfl (Pe9 rfl rfl rfl) (Lc9 rfl rfl (by decide) (OpT_alloc (r:=2101) (cs:=(refC (.slice none 0 0) zeroId false)) rfl (zero_run (by kernel_rfl : (Tryz.prog.info? 50).bind (·.zero) = some (.agg (refC (.slice none 0 0) zeroId false).toArray))) rfl (fun g2101 => (Lc09 rfl rfl (OpT_storeAll (r:=2101) rfl Tryz.sizeOf50 rfl rfl rfl (refC_len zeroId_length) (refC_len hidb) (refC_one hvob) ?_))))))))
  refine (G9 rfl rfl (N9 (X9 ?_)))
  refine Q9 ?_
  refine W_openTree 2100 3000 rfl (fun os hos => ?_)
  rcases Bool.eq_false_or_eq_true (mb) with hsp3 | hsp3
  ·
   subst hsp3
   refine R9 (L9 rfl (F9 33 rfl rfl) (L9 rfl (Pb9 (r:=201) rfl Tryz.isAgg4 rfl rfl (refC_met hida)) (M9 rfl rfl (WL_gPT rfl rfl rfl rfl rfl (by decide) (F9 33 rfl rfl) (WL_gPT rfl rfl rfl rfl rfl (by decide) (Pb9 (r:=2101) rfl Tryz.isAgg4 rfl rfl (refC_met hidb)) (L9 rfl (Pu_pickF rfl rfl rfl rfl) (M9 rfl rfl (WL_gF rfl rfl rfl rfl rfl (by decide) (WL_gF rfl rfl rfl rfl rfl (by decide) (WL_gF rfl rfl rfl rfl rfl (by decide) (WL_gF rfl rfl rfl rfl rfl (by decide) (WL_gF rfl rfl rfl rfl rfl (by decide) (L9 rfl (Pu_pickT rfl rfl rfl rfl) (G9 rfl rfl (N9 (X9 ?_))))))))))))))))
   refine W_ret ?_
   exact Xq9 [] (Ps:=[]) (res1 Tryz.results18 rfl) rfl (by decide) ⟨rfl,true,rfl,fun h => by cases h⟩
  ·
   subst hsp3
   refine R9 (L9 rfl (F9 33 rfl rfl) (L9 rfl (Pb9 (r:=201) rfl Tryz.isAgg4 rfl rfl (refC_met hida)) (M9 rfl rfl (WL_gPT rfl rfl rfl rfl rfl (by decide) (F9 33 rfl rfl) (WL_gPT rfl rfl rfl rfl rfl (by decide) (Pb9 (r:=2101) rfl Tryz.isAgg4 rfl rfl (refC_met hidb)) (L9 rfl (Pu_pickF rfl rfl rfl rfl) (M9 rfl rfl (WL_gPT rfl rfl rfl rfl rfl (by decide) (F9 0 rfl rfl) (WL_gPT rfl rfl rfl rfl rfl (by decide) (Pb9 (r:=201) rfl Tryz.isAgg27 rfl rfl rfl) (WL_gPT rfl rfl rfl rfl rfl (by decide) (F9 0 rfl rfl) (WL_gPT rfl rfl rfl rfl rfl (by decide) (Pb9 (r:=2101) rfl Tryz.isAgg27 rfl rfl rfl) (WL_gT rfl rfl rfl rfl rfl (by decide) (Oc9 3100 [0,201,2000,2001,2101,3000,3001] [] rfl Tryz.call42 rfl rfl rfl (by decide) (by decide) (met_spec wa wb es os (ref_len hba hga2 hes) (ref_len hbb hgb2 hos) _ (rs9 2 rfl (fun _ h => rp9 h)) (ds9 3 rfl (fun _ h => h)) (rs9 5 rfl (fun _ h => rp9 h)) (ds9 6 rfl (fun _ h => h))) (fun v30 Ps30 hR30 => ?_))))))))))))))
   obtain ⟨rfl,mm,rfl,hmm⟩:=hR30
   refine (L9 rfl (Pu_pickF rfl rfl rfl rfl) (G9 rfl rfl (N9 (X9 ?_))))
   refine W_ret ?_
   exact Xq9 [] (Ps:=[]) (res1 Tryz.results18 rfl) rfl (by decide) ⟨rfl,mm,rfl,fun h => noMeet hga2 hgb2 hes hos (hmm h)⟩
open Go.RowKit
set_option maxRecDepth 8000
def fndE (es : List EB) (k : List UInt8) : Option EB:=es.find? fun b => decide (b.1.key = k) && decide (sha b.2 = k)
open Go.RowKit
set_option maxRecDepth 8000
open Go.RowKit
set_option maxRecDepth 8000
def lastV (V : VW) (m : List UInt8) (es : List Ent) (st : Nd × Int) : Nd × Int:=es.foldl (fun st e => if e.1 = m then inodeV V e.2 else st) st
theorem nms_take {es : List Ent} {k : Nat} (hk : k < es.length) : nms (es.take (k + 1)) = nms (es.take k) ++ [(es.getD k ent0).1]:=by
  unfold nms
  rw [List.take_succ_eq_append_getElem hk,List.map_append,List.getD_eq_getElem?_getD,List.getElem?_eq_getElem hk]
  rfl
theorem row_nms {e : TypeId} {v : Value} {xs : List (List UInt8)} {x : List UInt8} {h : Hlt} (hp : rowP e 1 v (xs.length + 1) (ss xs ++ [sV x]) h) : rowS e v (xs ++ [x]) h:=by
  unfold rowS
  rw [List.length_append,ss_append]
  exact hp
open Go.RowKit
set_option maxRecDepth 8000
theorem list_spec (es : List EB) (v : Value) (id : List UInt8) (hid : id.length = 32) (hel : es.length ≤ 1000000000000) (hdl : ∀ b ∈ es,b.2.length ≤ 1000000000) (F : HP) (hF : ∀ h,F h → rdP 35 v (es.map (·.1)).length (recC bvC (es.map (·.1))) h) (hD : ∀ h,F h → datE es h) (hT : ∀ h,F h → tabsP h) (path : List UInt8) (hpl : path.length ≤ 1000000000) : CallsS Tryz.prog 30 #[.agg (treeC v id).toArray,sV path] F [] (fun r Ps => ∃ w,r = .tuple #[w,.int .i64 (listV (viewT (es.map toTB)) id path).2] ∧ Ps = [rowS 9 w (listV (viewT (es.map toTB)) id path).1]):=by
 refine callsS_enter Tryz.func30 rfl Tryz.ntmps30 (by simp) (fun E => ?_)
 refine Q9 (R9 (Lc9 rfl rfl (by decide) (OpT_box (r:=101) rfl rfl rfl (fun g101 => (G9 rfl rfl (G9 rfl rfl (N9 (X9 (Q9 (R9 (L9 rfl (Px9 (r:=101) rfl Tryz.isAgg31 Tryz.sizeOf31 rfl rfl (treeC_length hid) (load_all (treeC_length hid))) (Lc9 rfl rfl (by decide) (Oc9 200 [0,101] [] rfl Tryz.call43 rfl rfl rfl (by decide) (by decide) (look_spec es v id hel hdl _ (rs9 0 rfl hF) (ds9 0 rfl hD)) (fun v14 Ps14 hR14 => ?_))))))))))))))
 obtain ⟨gm,ls,rfl,rfl,hL0,hvw⟩:=hR14
 skip
 refine (G9 rfl rfl (N9 (X9 ?_)))
 refine Q9 (R9 (M9 rfl rfl (L9 rfl (F9 1 rfl rfl) (L9 rfl (Px9 (r:=101) rfl Tryz.isAgg29 Tryz.sizeOf29 rfl rfl ((bs_length _).trans hid) (tree_id hid)) (M9 rfl rfl (Lc9 rfl rfl (by decide) (Oc9 300 [0,101,200] [] rfl Tryz.call44 rfl rfl rfl (by decide) (by decide) (view_find gm ls _ (mapQ_star 2 rfl (fun _ h => h)) (fun p0 hp0 => rs9 0 rfl (look_rd hD hL0 p0 hp0)) (ts9 0 rfl hT) id path hid hpl) (fun v20 Ps20 hR20 => ?_))))))))
 obtain ⟨rfl,rfl⟩:=hR20
 rw [hvw]
 refine (M9 rfl rfl (L9 rfl (Pe9 rfl rfl rfl) (L9 rfl (Pe9 rfl rfl rfl) (Lc9 rfl rfl (by decide) (OpT_alloc (r:=301) (cs:=(nodeC 0 0 0 zeroId)) rfl (zero_run (by kernel_rfl : (Tryz.prog.info? 42).bind (·.zero) = some (.agg (nodeC 0 0 0 zeroId).toArray))) rfl (fun g301 => (Lc09 rfl rfl (OpT_storeAll (r:=301) rfl Tryz.sizeOf42 rfl rfl rfl (nodeC_length zeroId_length) (ndC_length (pathV_top _ _ _)) (one_node _ _ _ _) ?_))))))))
 refine (G9 rfl rfl (N9 (X9 ?_)))
 refine Q9 (Q9 ?_)
 refine W_nilRow 3 9 1 ?_
 refine R9 (M9 rfl rfl (L9 rfl (Pn9 rfl rfl rfl (run_neq _ _ _ _ _ _)) (N9 (X9 ?_))))
 refine C9 rfl (fun hc24 => ?_) (fun hc24 => ?_)
 ·
  have hp0 : (pathV (viewT (es.map toTB)) id path).2 ≠ 0:=by simpa using hc24
  have hres : listV (viewT (es.map toTB)) id path = ([],(pathV (viewT (es.map toTB)) id path).2):=by unfold listV; rw [if_pos hp0]
  refine Q9 (R9 (M9 rfl rfl (G9 rfl rfl (G9 rfl rfl (N9 (X9 ?_))))))
  refine W_ret (X_then_ret ?_)
  refine X_turn (P':=rowS 9 (.slice none 0 0) []) 3 rfl (fun h hp => hp) ?_
  exact Xq9 [3] (Ps:=[_]) (res2 Tryz.results30 rfl rfl) rfl (by decide) ⟨.slice none 0 0,by rw [hres] <;> rfl,by rw [hres] <;> rfl⟩
 ·
  have hp0 : (pathV (viewT (es.map toTB)) id path).2 = 0:=by simpa using hc24
  have hok:=pathV_ok hp0
  refine K9 (X9 ?_)
  refine Q9 (R9 (M9 rfl rfl (L9 rfl (Px9 (r:=301) rfl Tryz.isAgg42 Tryz.sizeOf42 rfl rfl (ndC_length (pathV_top _ _ _)) (load_all (ndC_length (pathV_top _ _ _)))) (Lc9 rfl rfl (by decide) (Oc9 400 [0,3,101,200,301] [] rfl Tryz.call56 rfl rfl rfl (by decide) (by decide) (view_folder gm ls _ (mapQ_star 3 rfl (fun _ h => h)) (fun p0 hp0 => rs9 0 rfl (look_rd hD hL0 p0 hp0)) (ts9 0 rfl hT) (pathV (viewT (es.map toTB)) id path).1 hok) (fun v29 Ps29 hR29 => ?_))))))
  obtain ⟨w29,rfl,rfl⟩:=hR29
  rw [hvw]
  refine (M9 rfl rfl (L9 rfl (Pe9 rfl rfl rfl) (L9 rfl (Pe9 rfl rfl rfl) (G9 rfl rfl (G9 rfl rfl (N9 (X9 ?_)))))))
  refine Q9 (Q9 (R9 (M9 rfl rfl (L9 rfl (Pn9 rfl rfl rfl (run_neq _ _ _ _ _ _)) (N9 (X9 ?_))))))
  refine C9 rfl (fun hc33 => ?_) (fun hc33 => ?_)
  ·
   have hd0 : (dirV (viewT (es.map toTB)) (pathV (viewT (es.map toTB)) id path).1).2 ≠ 0:=by simpa using hc33
   have hres : listV (viewT (es.map toTB)) id path = ([],((dirV (viewT (es.map toTB)) (pathV (viewT (es.map toTB)) id path).1).2 : Int)):=by unfold listV; rw [if_neg (fun h => h hp0),if_pos hd0]
   refine Q9 (R9 (M9 rfl rfl (G9 rfl rfl (G9 rfl rfl (N9 (X9 ?_))))))
   refine W_ret (X_then_ret ?_)
   refine X_turn (P':=rowS 9 (.slice none 0 0) []) 3 rfl (fun h hp => hp) ?_
   exact Xq9 [3] (Ps:=[_]) (res2 Tryz.results30 rfl rfl) rfl (by decide) ⟨.slice none 0 0,by rw [hres] <;> rfl,by rw [hres] <;> rfl⟩
  ·
   have hd0 : (dirV (viewT (es.map toTB)) (pathV (viewT (es.map toTB)) id path).1).2 = 0:=by simpa using hc33
   obtain ⟨ens,hdes⟩ : ∃ ens,(dirV (viewT (es.map toTB)) (pathV (viewT (es.map toTB)) id path).1).1 = ens:=⟨_,rfl⟩
   have hdd:=dirV_ents (viewT (es.map toTB)) (pathV (viewT (es.map toTB)) id path).1 hok
   rw [hdes] at hdd
   obtain ⟨hE,hnl⟩:=hdd
   rw [hdes]
   have hres : listV (viewT (es.map toTB)) id path = (nms ens,0):=by unfold listV; rw [if_neg (fun h => h hp0),if_neg (fun h => h hd0),hdes]
   refine K9 (X9 ?_)
   refine Q9 (R9 (G9 rfl rfl (N9 (X9 (Q9 (Q9 (R9 (M9 rfl rfl (L9 rfl (Pl9 (r:=400) rfl Tryz.runUnderlying118 rfl rfl rowR_rd) (M9 rfl rfl (N9 (X9 ?_))))))))))))
   refine W_block ?_
   refine Wt9 (P':=rowS 9 (.slice none 0 0) (nms (ens.take 0))) 3 rfl (fun h hp => hp) ?_
   refine W_loop (α:=Nat × Value) (fun x => [(10,x.2),(35,w29),(36,.int .i64 (ens.length : Int)),(37,.int .i64 (x.1 : Int))]) (fun x => [(0,F),(3,rowS 9 x.2 (nms (ens.take x.1))),(400,rowE 122 w29 ens)]) (fun x => x.1 ≤ ens.length) (fun x => ens.length - x.1) ((0,.slice none 0 0)) (Nat.zero_le _) (a9 rfl) (a9 rfl) (fun x hx => ?_)
   have hnk : (nms (ens.take x.1)).length = x.1:=by rw [nms_length,List.length_take]; omega
   refine Q9 (R9 (L9 rfl (Pn9 rfl rfl rfl (run_lss _ _ _ _ _ _)) (N9 (X9 (Q9 ?_)))))
   refine C9 rfl (fun hc38 => ?_) (fun hc38 => ?_)
   ·
    have hlt : x.1 < ens.length:=by have:=of_decide_eq_true hc38; omega
    refine K9 (X9 ?_)
    refine Q9 ?_
    refine W_block ?_
    refine Q9 (R9 (L9 rfl (Pi9 (r:=400) rfl Tryz.runUnderlying118 Tryz.sizeOf122 rfl rfl rfl rowR_rd (by omega)) (L9 rfl (Pz9 (r:=400) rfl Tryz.isAgg122 Tryz.sizeOf122 rfl rfl rowR_rd (entF_len (hE.get hlt)) (by decide) (ent_all hE hlt)) (Lc9 rfl rfl (by decide) (OpT_alloc (r:=401) (cs:=(entC [] zeroId)) rfl (zero_run (by kernel_rfl : (Tryz.prog.info? 122).bind (·.zero) = some (.agg (entC [] zeroId).toArray))) rfl (fun g401 => (Lc09 rfl rfl (OpT_storeAll (r:=401) rfl Tryz.sizeOf122 rfl rfl rfl (entC_length zeroId_length) (entC_length (hE.get hlt)) (entC_one _ _) ?_))))))))
    refine (N9 (X9 ?_))
    refine R9 (M9 rfl rfl (L9 rfl (F9 0 rfl rfl) (L9 rfl (Pb9 (r:=401) rfl Tryz.isAgg9 rfl rfl rfl) (Lc9 rfl rfl (by decide) (OpT_buildOnes (r:=402) [sV (ens.getD x.1 ent0).1] rfl rfl Tryz.runUnderlying63 Tryz.sizeOf9 Tryz.zeroValue9 rfl rfl (by decide) rfl (by simp [Value.cells]) (fun v44 => (Lc9 rfl rfl (by decide) (Oa9 (r:=3) (r2:=402) rfl Tryz.underlying63 TI.hi9 TI.hz9 TI.hs9 TI.hby9 TI.hzs9 (by decide) rfl rfl rfl rfl (fun _ h => rp9 h) (by intro u hu; simp at hu; rw [hu]; rfl) (by unfold maxLen; omega) (by omega) (fun v45 => ?_)))))))))
    refine Lt9 (P':=rowS 9 v45 (nms (ens.take x.1) ++ [(ens.getD x.1 ent0).1])) (r:=3) rfl (fun h hp => row_nms hp) ?_
    refine (G9 rfl rfl (N9 (X_block (X9 ?_))))
    refine R9 (L9 rfl (Pn9 rfl rfl rfl (run_add _ _ _ _ _ (by omega))) (M9 rfl rfl (N9 ?_)))
    exact Xr9 (x.1 + 1,v45) (by dsimp only; omega) (by dsimp only; omega) ⟨rfl,rfl,rfl,rfl,trivial⟩ ⟨rfl,look_eq rfl (by rw [nms_take hlt]),rfl,trivial⟩
   ·
    have hge : ens.length ≤ x.1:=by have:=of_decide_eq_false hc38; omega
    refine W_exit (X_then_exit (X_then_exit (X_block_exit (X9 ?_))))
    refine Q9 (R9 (M9 rfl rfl (G9 rfl rfl (G9 rfl rfl (N9 (X9 ?_))))))
    refine W_ret ?_
    refine X_turn (P':=rowS 9 x.2 (nms ens)) 3 rfl (fun h hp => by rw [List.take_of_length_le hge] at hp; exact hp) ?_
    exact Xq9 [3] (Ps:=[_]) (res2 Tryz.results30 rfl rfl) rfl (by decide) ⟨x.2,by rw [hres] <;> rfl,by rw [hres] <;> rfl⟩
theorem read_spec (es : List EB) (v : Value) (id : List UInt8) (hid : id.length = 32) (hel : es.length ≤ 1000000000000) (hdl : ∀ b ∈ es,b.2.length ≤ 1000000000) (F : HP) (hF : ∀ h,F h → rdP 35 v (es.map (·.1)).length (recC bvC (es.map (·.1))) h) (hD : ∀ h,F h → datE es h) (hT : ∀ h,F h → tabsP h) (path : List UInt8) (hpl : path.length ≤ 1000000000) (off n : Int) : CallsS Tryz.prog 31 #[.agg (treeC v id).toArray,sV path,.int .i64 off,.int .i64 n] F [] (fun r Ps => ∃ w,r = .tuple #[w,.int .i64 (readV (viewT (es.map toTB)) id path off n).2] ∧ Ps = [rowB 5 w (readV (viewT (es.map toTB)) id path off n).1]):=by
 refine callsS_enter Tryz.func31 rfl Tryz.ntmps31 (by simp) (fun E => ?_)
 refine Q9 (R9 (Lc9 rfl rfl (by decide) (OpT_box (r:=101) rfl rfl rfl (fun g101 => (G9 rfl rfl (G9 rfl rfl (N9 (X9 (Q9 (R9 (L9 rfl (Px9 (r:=101) rfl Tryz.isAgg31 Tryz.sizeOf31 rfl rfl (treeC_length hid) (load_all (treeC_length hid))) (Lc9 rfl rfl (by decide) (Oc9 200 [0,101] [] rfl Tryz.call43 rfl rfl rfl (by decide) (by decide) (look_spec es v id hel hdl _ (rs9 0 rfl hF) (ds9 0 rfl hD)) (fun v14 Ps14 hR14 => ?_))))))))))))))
 obtain ⟨gm,ls,rfl,rfl,hL0,hvw⟩:=hR14
 skip
 refine (G9 rfl rfl (N9 (X9 ?_)))
 refine Q9 (R9 (M9 rfl rfl (L9 rfl (F9 1 rfl rfl) (L9 rfl (Px9 (r:=101) rfl Tryz.isAgg29 Tryz.sizeOf29 rfl rfl ((bs_length _).trans hid) (tree_id hid)) (M9 rfl rfl (Lc9 rfl rfl (by decide) (Oc9 300 [0,101,200] [] rfl Tryz.call44 rfl rfl rfl (by decide) (by decide) (view_find gm ls _ (mapQ_star 2 rfl (fun _ h => h)) (fun p0 hp0 => rs9 0 rfl (look_rd hD hL0 p0 hp0)) (ts9 0 rfl hT) id path hid hpl) (fun v20 Ps20 hR20 => ?_))))))))
 obtain ⟨rfl,rfl⟩:=hR20
 rw [hvw]
 refine (M9 rfl rfl (L9 rfl (Pe9 rfl rfl rfl) (L9 rfl (Pe9 rfl rfl rfl) (Lc9 rfl rfl (by decide) (OpT_alloc (r:=301) (cs:=(nodeC 0 0 0 zeroId)) rfl (zero_run (by kernel_rfl : (Tryz.prog.info? 42).bind (·.zero) = some (.agg (nodeC 0 0 0 zeroId).toArray))) rfl (fun g301 => (Lc09 rfl rfl (OpT_storeAll (r:=301) rfl Tryz.sizeOf42 rfl rfl rfl (nodeC_length zeroId_length) (ndC_length (pathV_top _ _ _)) (one_node _ _ _ _) ?_))))))))
 refine (G9 rfl rfl (N9 (X9 ?_)))
 refine Q9 ?_
 refine W_block ?_
 refine Q9 ?_
 refine W_nilRow 3 5 1 ?_
 refine R9 (M9 rfl rfl (L9 rfl (Pn9 rfl rfl rfl (run_neq _ _ _ _ _ _)) (G9 rfl rfl (N9 (X9 ?_)))))
 refine C9 rfl (fun hc23 => ?_) (fun hc23 => ?_)
 ·
  have hp0 : (pathV (viewT (es.map toTB)) id path).2 ≠ 0:=by simpa using hc23
  have hres : readV (viewT (es.map toTB)) id path off n = ([],(pathV (viewT (es.map toTB)) id path).2):=by unfold readV; rw [if_pos hp0]
  refine Q9 (R9 (M9 rfl rfl (G9 rfl rfl (G9 rfl rfl (N9 (X9 ?_))))))
  refine W_ret (X_block_ret (X_then_ret ?_))
  refine X_turn (P':=rowB 5 (.slice none 0 0) []) 3 rfl (fun h hp => hp) ?_
  exact Xq9 [3] (Ps:=[_]) (res2 Tryz.results31 rfl rfl) rfl (by decide) ⟨.slice none 0 0,by rw [hres] <;> rfl,by rw [hres] <;> rfl⟩
 ·
  have hp0 : (pathV (viewT (es.map toTB)) id path).2 = 0:=by simpa using hc23
  have hok:=pathV_ok hp0
  refine Q9 (R9 (L9 rfl (F9 0 rfl rfl) (L9 rfl (Pb9 (r:=301) rfl Tryz.isAgg3 rfl rfl rfl) (L9 rfl (Pn9 rfl rfl rfl (run_neq _ _ _ _ _ _)) (G9 rfl rfl (N9 (X9 ?_)))))))
  refine C9 rfl (fun hc27 => ?_) (fun hc27 => ?_)
  ·
   have hk1 : (pathV (viewT (es.map toTB)) id path).1.1 ≠ 1:=by simpa using hc27
   have hres : readV (viewT (es.map toTB)) id path off n = ([],3):=by unfold readV; rw [if_neg (fun h => h hp0),if_pos hk1]
   refine Q9 (R9 (G9 rfl rfl (G9 rfl rfl (N9 (X9 ?_)))))
   refine W_ret (X_block_ret (X_then_ret ?_))
   refine X_turn (P':=rowB 5 (.slice none 0 0) []) 3 rfl (fun h hp => hp) ?_
   exact Xq9 [3] (Ps:=[_]) (res2 Tryz.results31 rfl rfl) rfl (by decide) ⟨.slice none 0 0,by rw [hres] <;> rfl,by rw [hres] <;> rfl⟩
  ·
   have hk1 : (pathV (viewT (es.map toTB)) id path).1.1 = 1:=by simpa using hc27
   refine Q9 (R9 (M9 rfl rfl (L9 rfl (Pn9 rfl rfl rfl (run_lss _ _ _ _ _ _)) (M9 rfl rfl (Lg9 rfl rfl rfl rfl (by decide) (fun hb => (Pm9 rfl rfl)) (Lg9 rfl rfl rfl rfl (by decide) (fun hb => (Pn9 rfl (ev_gv rfl hb) rfl (run_lss _ _ _ _ _ _))) (L9 rfl (Pu_or rfl rfl rfl) (G9 rfl rfl (N9 (X9 ?_))))))))))
   refine C9 rfl (fun hc31 => ?_) (fun hc31 => ?_)
   ·
    have hng : off < 0 ∨ n < 0:=by simpa using hc31
    have hres : readV (viewT (es.map toTB)) id path off n = ([],1):=by unfold readV; rw [if_neg (fun h => h hp0),if_neg (fun h => h hk1),if_pos hng]
    refine Q9 (R9 (G9 rfl rfl (G9 rfl rfl (N9 (X9 ?_)))))
    refine W_ret (X_block_ret (X_then_ret ?_))
    refine X_turn (P':=rowB 5 (.slice none 0 0) []) 3 rfl (fun h hp => hp) ?_
    exact Xq9 [3] (Ps:=[_]) (res2 Tryz.results31 rfl rfl) rfl (by decide) ⟨.slice none 0 0,by rw [hres] <;> rfl,by rw [hres] <;> rfl⟩
   ·
    have hng : ¬ (off < 0 ∨ n < 0):=by intro hq; have h2 : 0 ≤ off ∧ 0 ≤ n:=(by simpa using hc31); omega
    refine Q9 (R9 (M9 rfl rfl (L9 rfl (F9 1 rfl rfl) (L9 rfl (Pb9 (r:=301) rfl Tryz.isAgg3 rfl rfl rfl) (L9 rfl (Pn9 rfl rfl rfl (run_geq _ _ _ _ _ _)) (G9 rfl rfl (N9 (X9 ?_))))))))
    refine C9 rfl (fun hc38 => ?_) (fun hc38 => ?_)
    ·
     have hbg : (pathV (viewT (es.map toTB)) id path).1.2.1 ≤ off:=by simpa using hc38
     have hres : readV (viewT (es.map toTB)) id path off n = ([],0):=by unfold readV; rw [if_neg (fun h => h hp0),if_neg (fun h => h hk1),if_neg hng,if_pos hbg]
     refine Q9 (R9 (G9 rfl rfl (G9 rfl rfl (N9 (X9 ?_)))))
     refine W_ret (X_block_ret (X_then_ret ?_))
     refine X_turn (P':=rowB 5 (.slice none 0 0) []) 3 rfl (fun h hp => hp) ?_
     exact Xq9 [3] (Ps:=[_]) (res2 Tryz.results31 rfl rfl) rfl (by decide) ⟨.slice none 0 0,by rw [hres] <;> rfl,by rw [hres] <;> rfl⟩
    ·
     have hbg : ¬ (pathV (viewT (es.map toTB)) id path).1.2.1 ≤ off:=by have:=of_decide_eq_false hc38; omega
     have hres : readV (viewT (es.map toTB)) id path off n = ((bytesV (viewT (es.map toTB)) (pathV (viewT (es.map toTB)) id path).1 off.toNat (off.toNat + min n.toNat ((pathV (viewT (es.map toTB)) id path).1.2.1.toNat - off.toNat))).1,((bytesV (viewT (es.map toTB)) (pathV (viewT (es.map toTB)) id path).1 off.toNat (off.toNat + min n.toNat ((pathV (viewT (es.map toTB)) id path).1.2.1.toNat - off.toNat))).2 : Int)):=by unfold readV; rw [if_neg (fun h => h hp0),if_neg (fun h => h hk1),if_neg hng,if_neg hbg]
     obtain ⟨nd,hnd⟩ : ∃ nd,nd = (pathV (viewT (es.map toTB)) id path).1:=⟨_,rfl⟩
     rw [← hnd] at hres hok hbg hk1
     rw [← hnd]
     have hs1:=hok.2.2.1
     have hs0:=hok.2.1
     obtain ⟨o,ho⟩ : ∃ o : Nat,o = off.toNat:=⟨_,rfl⟩
     obtain ⟨m,hm⟩ : ∃ m : Nat,m = n.toNat:=⟨_,rfl⟩
     have ho2 : off = (o : Int):=by omega
     have hm2 : n = (m : Int):=by omega
     rw [← ho,← hm] at hres
     obtain ⟨z,hz⟩ : ∃ z : Nat,z = o + min m (nd.2.1.toNat - o):=⟨_,rfl⟩
     rw [← hz] at hres
     refine K9 (X_block (X9 ?_))
     refine Q9 (R9 (M9 rfl rfl (L9 rfl (Px9 (r:=301) rfl Tryz.isAgg42 Tryz.sizeOf42 rfl rfl (ndC_length hok.2.2.2.2) (load_all (ndC_length hok.2.2.2.2))) (M9 rfl rfl (M9 rfl rfl (M9 rfl rfl (L9 rfl (F9 1 rfl rfl) (L9 rfl (Pb9 (r:=301) rfl Tryz.isAgg3 rfl rfl rfl) (M9 rfl rfl (L9 rfl (Pn9 rfl rfl rfl (run_sub _ _ _ _ _ (by omega))) (L9 rfl (Pu_min rfl rfl rfl) (L9 rfl (Pn9 rfl rfl rfl (run_add _ _ _ _ _ (by omega))) ?_))))))))))))
     rw [show off + min n (nd.2.1 - off) = (z : Int) by omega,ho2]
     refine (Lc9 rfl rfl (by decide) (Oc9 400 [0,3,101,200,301] [] rfl Tryz.call57 rfl rfl rfl (by decide) (by decide) (view_bytes gm ls _ (mapQ_star 3 rfl (fun _ h => h)) (fun p0 hp0 => rs9 0 rfl (look_rd hD hL0 p0 hp0)) nd hok o z (by omega) (by omega)) (fun v54 Ps54 hR54 => ?_)))
     obtain ⟨w54,rfl,rfl⟩:=hR54
     rw [hvw]
     refine (L9 rfl (Pe9 rfl rfl rfl) (L9 rfl (Pe9 rfl rfl rfl) (G9 rfl rfl (G9 rfl rfl (N9 (X9 ?_))))))
     refine W_ret ?_
     exact Xq9 [400] (Ps:=[_]) (res2 Tryz.results31 rfl rfl) rfl (by decide) ⟨w54,by rw [← ho2,hres] <;> rfl,by rw [← ho2,hres] <;> rfl⟩
open Go.RowKit
set_option maxRecDepth 8000
theorem row_its {e : TypeId} {v : Value} {n : Nat} {ys : List Value} {xs zs : List F3} {h : Hlt} (hp : rowP e 2 v n (ys ++ recC itC zs) h) (hn : n = xs.length + zs.length) (hy : ys = recC itC xs) : rowR itC 2 e v (xs ++ zs) h:=by
  subst hn; subst hy
  unfold rowR
  rw [List.length_append,recC_append]
  exact hp
theorem it_get {xs : List F3} {k : Nat} (hk : k < xs.length) : xs.getD k it0 ∈ xs:=getD_mem' hk
theorem its_ones {xs : List F3} (h : ∀ x ∈ xs,x.2.1.oneCell' = true) : ∀ u ∈ recC itC xs,u.oneCell' = true:=by
  intro u hu
  unfold recC at hu
  obtain ⟨l,hl,hu⟩:=List.mem_flatten.1 hu
  obtain ⟨x,hx,rfl⟩:=List.mem_map.1 hl
  exact itC_one (h x hx) u hu
theorem itP_rd {v : Value} {xs : List F3} {h : Hlt} (hp : itemsP v xs h) : rdIt v xs h:=starL_le hp (φ:=rdIt v xs) 0 rfl fun h' h1 h2 => rdP_le h2 (rowR_rd _ h1)
theorem itP_dat {v : Value} {xs : List F3} {h : Hlt} (hp : itemsP v xs h) : datI xs h:=fun q hq => starL_le hp (φ:=rdB q.2.1 q.2.2) 1 rfl fun h' h1 h2 => rdP_le h2 (h1 q hq)
theorem datFV_star {Js : List HP} {P : HP} {fs : List FV} (k : Nat) (hk : Js[k]? = some P) (hp : ∀ h,P h → datFV fs h) : ∀ h,starL Js h → datFV fs h:=fun h hs f hf => rs9 k hk (fun h' hh => hp h' hh f hf) h hs
theorem dat_sub {xs ys : List F3} {h : Hlt} (hp : datI xs h) (hs : ∀ q ∈ ys,q ∈ xs) : datI ys h:=fun q hq => hp q (hs q hq)
theorem short_big {xs : List F3} (h : Short3 xs) : ∀ x ∈ xs,x.1.length ≤ 900000 ∧ x.2.2.length ≤ 100000000000:=fun x hx => ⟨by have:=(h x hx).1; omega,by have:=(h x hx).2.1; omega⟩
theorem good_next {ins xs : List F3} {i : Nat} (hi : i < ins.length) (hx : xs.length < 20) (hm : ∀ q ∈ xs,q ∈ ins) (hs : Short3 ins) (v : Value) (F : HP) (hF : ∀ h,F h → rdIt v (xs ++ [ins.getD i it0]) h) (hD : ∀ h,F h → datI ins h) : CallsS Tryz.prog 21 #[v] F [] (fun r Ps => ∃ (v' : Value) (id : List UInt8) (met : Bool) (l : List TB),r = .tuple #[.agg (refC v' id met).toArray,.int .i64 (buildE (xs ++ [ins.getD i it0]) : Int)] ∧ Ps = [treeP v' l] ∧ id.length = 32 ∧ v'.oneCell' = true ∧ (buildE (xs ++ [ins.getD i it0]) = 0 → (l,met) = putsT ([],false) (dirI 5 (partsN (xs ++ [ins.getD i it0]))).2 ∧ id = (dirI 5 (partsN (xs ++ [ins.getD i it0]))).1) ∧ (buildE (xs ++ [ins.getD i it0]) ≠ 0 → l = [] ∧ met = false)) :=
  refBuild_spec v (xs ++ [ins.getD i it0]) (by rw [List.length_append,List.length_singleton]; omega) (short_big (fun q hq => (List.mem_append.1 hq).elim (fun h => hs q (hm q h)) (fun h => by rw [List.mem_singleton.1 h]; exact hs _ (it_get hi)))) F hF
    (fun h hp => dat_sub (hD h hp) (fun q hq => (List.mem_append.1 hq).elim (hm q) (fun h2 => by rw [List.mem_singleton.1 h2]; exact it_get hi)))
set_option maxHeartbeats 4000000 in
theorem good_spec (v : Value) (fs : List FV) (F : HP) (hF : ∀ h,F h → rdFV v fs h) (hN : ∀ h,F h → datFV fs h) : CallsS Tryz.prog 14 #[v] F [] (fun r Ps => ∃ xs : List F3,buildE xs = 0 ∧ xs.length ≤ 20 ∧ Short3 xs ∧ Ps = [itemsP r xs]):=by
 refine callsS_enter Tryz.func14 rfl Tryz.ntmps14 (by simp) (fun E => ?_)
 refine Q9 (R9 (G9 rfl rfl (N9 (X9 (Q9 (R9 (M9 rfl rfl (Lc9 rfl rfl (by decide) (Oc9 200 [0] [] rfl Tryz.call20 rfl rfl rfl (by decide) (by decide) (items_spec v fs _ (rs9 0 rfl hF) (datFV_star 0 rfl hN)) (fun v9 Ps9 hR9 => ?_))))))))))
 obtain ⟨ins,hil,his,rfl⟩:=hR9
 skip
 refine (G9 rfl rfl (N9 (X9 ?_)))
 refine Q9 ?_
 refine W_openItems 200 700 rfl ?_
 refine W_ren 700 5 rfl ?_
 refine W_ren 701 6 rfl ?_
 refine W_nilRow 7 38 2 ?_
 refine Wt9 (P':=rowR itC 2 38 (.slice none 0 0) []) 7 rfl (fun h hp => hp) ?_
 refine W_fact (r:=6) rfl (fun h hp x hx => rd_one (hp x hx)) (fun (hone : ∀ x ∈ ins,x.2.1.oneCell' = true) => ?_)
 refine R9 (G9 rfl rfl (N9 (X9 (Q9 (Q9 (R9 (G9 rfl rfl (N9 (X9 ?_)))))))))
 refine W_block ?_
 refine W_loop (α:=Nat × Value × List F3) (fun x => [(3,v9),(4,x.2.1),(5,.int .i64 (x.1 : Int))]) (fun x => [(0,F),(5,rowR itC 2 38 v9 ins),(6,datI ins),(7,rowR itC 2 38 x.2.1 x.2.2)]) (fun x => x.1 ≤ ins.length ∧ x.2.2.length ≤ x.1 ∧ x.2.2.length ≤ 20 ∧ (∀ q ∈ x.2.2,q ∈ ins) ∧ buildE x.2.2 = 0) (fun x => ins.length - x.1) ((0,.slice none 0 0,[])) ⟨Nat.zero_le _,Nat.le_refl _,Nat.zero_le _,fun q hq => absurd hq (by simp),rfl⟩ (a9 rfl) (a9 rfl) (fun x hx => ?_)
 obtain ⟨hx,hxl,hx20,hxm,hxb⟩:=hx
 refine Q9 (Q9 (R9 (M9 rfl rfl (M9 rfl rfl (L9 rfl (Pl9 (r:=5) rfl Tryz.runUnderlying24 rfl rfl rowR_rd) (L9 rfl (Pn9 rfl rfl rfl (run_lss _ _ _ _ _ _)) (M9 rfl rfl (Lg9 rfl rfl rfl rfl (by decide) (fun hb => (Pm9 rfl rfl)) (Lg9 rfl rfl rfl rfl (by decide) (fun hb => (Pl9 (r:=7) rfl Tryz.runUnderlying24 (ev_gv rfl hb) rfl rowR_rd)) (Lg9 rfl rfl rfl rfl (by decide) (fun hb => (Pn9 rfl (ev_gv rfl hb) rfl (run_lss _ _ _ _ _ _))) (L9 rfl (Pu_and rfl rfl rfl) (N9 (X9 ?_)))))))))))))
 refine C9 rfl (fun hc18 => ?_) (fun hc18 => ?_)
 ·
  have hlt : x.1 < ins.length ∧ x.2.2.length < 20:=by simp only [Bool.and_eq_true,decide_eq_true_eq] at hc18; omega
  have hq1:=hone _ (it_get hlt.1)
  have hones:=its_ones (fun q hq => hone q (hxm q hq))
  refine K9 (X9 ?_)
  refine Q9 ?_
  refine W_block ?_
  refine W_cut (α:=Unit) (fun _z => [(3,v9),(4,x.2.1),(5,.int .i64 (x.1 : Int)),(7,.int .i64 ((buildE (x.2.2 ++ [(ins.getD x.1 it0)]) : Nat) : Int))]) (fun _z => [(0,F),(5,rowR itC 2 38 v9 ins),(6,datI ins),(7,rowR itC 2 38 x.2.1 x.2.2)]) (fun _z => True) ?_ (fun z hz => ?_)
  ·
   refine W_draw (N:=16) (by kernel_rfl) rfl [(0,_),(5,_)] ⟨rfl,rfl,trivial⟩ ?_
   refine (T9 1 rfl rfl (Pm9 rfl rfl) (T9 3 rfl rfl (Pm9 rfl rfl) (T9 4 rfl rfl (Pm9 rfl rfl) (T9 5 rfl rfl (Pi9 (r:=5) rfl Tryz.runUnderlying24 Tryz.sizeOf38 rfl rfl rfl rowR_rd (by omega)) (T9 6 rfl rfl (Pz9 (r:=5) rfl Tryz.isAgg38 Tryz.sizeOf38 rfl rfl rowR_rd rfl (by decide) (its_all hlt.1)) (Y9 [0,7,13] ?_))))))
   refine Z9 rfl rfl (OpT_buildRows (r:=151) [] rfl rfl Tryz.runUnderlying24 Tryz.sizeOf38 Tryz.zeroValue38 rfl (by decide) rfl (by decide) (by intro r hr; simp at hr) rfl (fun v22 => ⟨⟨rfl,rfl,trivial⟩,?_⟩)) ?_
   ·
    refine AH_turn (P':=rowR itC 2 38 v22 []) 151 rfl (fun h hp => hp) ?_
    refine (Y9 [2,7,13] ?_)
    refine Z9 rfl rfl (Oa9 (r:=151) (r2:=7) rfl Tryz.underlying24 TI.hi38 TI.hz38 TI.hs38 TI.hby38 TI.hzs38 (by decide) rfl rfl rfl rfl rowR_rd hones (by unfold maxLen; rw [List.length_nil]; omega) (by rw [List.length_nil]; omega) (fun v24 => ?_)) ?_
    ·
     refine ⟨⟨rfl,rfl,trivial⟩,?_⟩
     refine AH_turn (P':=rowR itC 2 38 v24 ([] ++ x.2.2)) 151 rfl (fun h hp => row_its hp (by rw [List.length_nil]) rfl) ?_
     refine (Y9 [7,13] ?_)
     refine Z9 rfl rfl (OpT_buildRows (r:=152) [itC (ins.getD x.1 it0)] rfl rfl Tryz.runUnderlying24 Tryz.sizeOf38 Tryz.zeroValue38 rfl (by decide) rfl (by decide) (by intro r hr; simp at hr; rw [hr]; rfl) rfl (fun v29 => ⟨⟨rfl,rfl,trivial⟩,?_⟩)) ?_
     ·
      refine (Y9 [8,13] ?_)
      refine Z9 rfl rfl (Oa9 (r:=151) (r2:=152) rfl Tryz.underlying24 TI.hi38 TI.hz38 TI.hs38 TI.hby38 TI.hzs38 (by decide) rfl rfl rfl rfl (fun _ h => rp9 h) (by rw [List.flatten_cons,List.flatten_nil,List.append_nil]; exact itC_one hq1) (by unfold maxLen; rw [List.nil_append]; omega) (by rw [List.nil_append]; omega) (fun v30 => ?_)) ?_
      ·
       refine ⟨⟨rfl,rfl,trivial⟩,?_⟩
       refine AH_turn (P':=rowR itC 2 38 v30 (x.2.2 ++ [(ins.getD x.1 it0)])) 151 rfl (fun h hp => row_it hp) ?_
       refine (Y9 [9,13] ?_)
       refine Z9 rfl rfl (Oc9 200 [0,5,6,7,151,152] [] rfl Tryz.call21 rfl rfl rfl (by decide) (by decide) (good_next hlt.1 hlt.2 hxm his v30 _ (rs9 4 rfl rowR_rd) (datI_star 2 rfl (fun _ h => h))) (fun v31 Ps31 hR31 => ?_)) ?_
       ·
        obtain ⟨vt,idt,mt,lt,rfl,rfl,hit,hvt,_,_⟩:=hR31
        refine ⟨⟨rfl,rfl,trivial⟩,?_⟩
        refine (T9 10 rfl rfl (Pm9 rfl rfl) (T9 11 rfl rfl (Pe9 rfl rfl rfl) (T9 12 rfl rfl (Pe9 rfl rfl rfl) (Y9 [13] ?_))))
        refine Z9 rfl rfl (OpT_alloc (r:=201) (cs:=(refC (.slice none 0 0) zeroId false)) rfl (zero_run (by kernel_rfl : (Tryz.prog.info? 50).bind (·.zero) = some (.agg (refC (.slice none 0 0) zeroId false).toArray))) rfl (fun g201 => ⟨⟨rfl,rfl,trivial⟩,?_⟩)) ?_
        ·
         refine (Y9 [14] ?_)
         refine Ac09 rfl rfl rfl (OpT_storeAll (r:=201) rfl Tryz.sizeOf50 rfl rfl rfl (refC_len zeroId_length) (refC_len hit) (refC_one hvt) ?_) ?_
         ·
          refine ⟨⟨rfl,rfl,trivial⟩,?_⟩
          refine (T9 15 rfl rfl (Pg9 rfl rfl) (Ad9 (by kernel_rfl) ?_))
          exact X_cut () trivial (a9 rfl) (a9 rfl)
         exact An9
        exact An9
       refine Z9 rfl rfl (OpT_alloc (r:=153) (cs:=(refC (.slice none 0 0) zeroId false)) rfl (zero_run (by kernel_rfl : (Tryz.prog.info? 50).bind (·.zero) = some (.agg (refC (.slice none 0 0) zeroId false).toArray))) rfl (fun g153 => ⟨⟨rfl,rfl,trivial⟩,?_⟩)) ?_
       ·
        refine (Y9 [9] ?_)
        refine Z9 rfl rfl (Oc9 200 [0,5,6,7,151,152,153] [] rfl Tryz.call21 rfl rfl rfl (by decide) (by decide) (good_next hlt.1 hlt.2 hxm his v30 _ (rs9 4 rfl rowR_rd) (datI_star 2 rfl (fun _ h => h))) (fun v31 Ps31 hR31 => ?_)) ?_
        ·
         obtain ⟨vt,idt,mt,lt,rfl,rfl,hit,hvt,_,_⟩:=hR31
         refine ⟨⟨rfl,rfl,trivial⟩,?_⟩
         refine (T9 10 rfl rfl (Pm9 rfl rfl) (T9 11 rfl rfl (Pe9 rfl rfl rfl) (T9 12 rfl rfl (Pe9 rfl rfl rfl) (Y9 [14] ?_))))
         refine Ac09 rfl rfl rfl (OpT_storeAll (r:=153) rfl Tryz.sizeOf50 rfl rfl rfl (refC_len zeroId_length) (refC_len hit) (refC_one hvt) ?_) ?_
         ·
          refine ⟨⟨rfl,rfl,trivial⟩,?_⟩
          refine (T9 15 rfl rfl (Pg9 rfl rfl) (Ad9 (by kernel_rfl) ?_))
          exact X_cut () trivial (a9 rfl) (a9 rfl)
         exact An9
        exact An9
       exact An9
      refine Z9 rfl rfl (OpT_alloc (r:=153) (cs:=(refC (.slice none 0 0) zeroId false)) rfl (zero_run (by kernel_rfl : (Tryz.prog.info? 50).bind (·.zero) = some (.agg (refC (.slice none 0 0) zeroId false).toArray))) rfl (fun g153 => ⟨⟨rfl,rfl,trivial⟩,?_⟩)) ?_
      ·
       refine (Y9 [8] ?_)
       refine Z9 rfl rfl (Oa9 (r:=151) (r2:=152) rfl Tryz.underlying24 TI.hi38 TI.hz38 TI.hs38 TI.hby38 TI.hzs38 (by decide) rfl rfl rfl rfl (fun _ h => rp9 h) (by rw [List.flatten_cons,List.flatten_nil,List.append_nil]; exact itC_one hq1) (by unfold maxLen; rw [List.nil_append]; omega) (by rw [List.nil_append]; omega) (fun v30 => ?_)) ?_
       ·
        refine ⟨⟨rfl,rfl,trivial⟩,?_⟩
        refine AH_turn (P':=rowR itC 2 38 v30 (x.2.2 ++ [(ins.getD x.1 it0)])) 151 rfl (fun h hp => row_it hp) ?_
        refine (Y9 [9] ?_)
        refine Z9 rfl rfl (Oc9 200 [0,5,6,7,151,152,153] [] rfl Tryz.call21 rfl rfl rfl (by decide) (by decide) (good_next hlt.1 hlt.2 hxm his v30 _ (rs9 4 rfl rowR_rd) (datI_star 2 rfl (fun _ h => h))) (fun v31 Ps31 hR31 => ?_)) ?_
        ·
         obtain ⟨vt,idt,mt,lt,rfl,rfl,hit,hvt,_,_⟩:=hR31
         refine ⟨⟨rfl,rfl,trivial⟩,?_⟩
         refine (T9 10 rfl rfl (Pm9 rfl rfl) (T9 11 rfl rfl (Pe9 rfl rfl rfl) (T9 12 rfl rfl (Pe9 rfl rfl rfl) (Y9 [14] ?_))))
         refine Ac09 rfl rfl rfl (OpT_storeAll (r:=153) rfl Tryz.sizeOf50 rfl rfl rfl (refC_len zeroId_length) (refC_len hit) (refC_one hvt) ?_) ?_
         ·
          refine ⟨⟨rfl,rfl,trivial⟩,?_⟩
          refine (T9 15 rfl rfl (Pg9 rfl rfl) (Ad9 (by kernel_rfl) ?_))
          exact X_cut () trivial (a9 rfl) (a9 rfl)
         exact An9
        exact An9
       exact An9
      exact An9
     refine Z9 rfl rfl (OpT_alloc (r:=152) (cs:=(refC (.slice none 0 0) zeroId false)) rfl (zero_run (by kernel_rfl : (Tryz.prog.info? 50).bind (·.zero) = some (.agg (refC (.slice none 0 0) zeroId false).toArray))) rfl (fun g152 => ⟨⟨rfl,rfl,trivial⟩,?_⟩)) ?_
     ·
      refine (Y9 [7] ?_)
      refine Z9 rfl rfl (OpT_buildRows (r:=153) [itC (ins.getD x.1 it0)] rfl rfl Tryz.runUnderlying24 Tryz.sizeOf38 Tryz.zeroValue38 rfl (by decide) rfl (by decide) (by intro r hr; simp at hr; rw [hr]; rfl) rfl (fun v29 => ⟨⟨rfl,rfl,trivial⟩,?_⟩)) ?_
      ·
       refine (Y9 [8] ?_)
       refine Z9 rfl rfl (Oa9 (r:=151) (r2:=153) rfl Tryz.underlying24 TI.hi38 TI.hz38 TI.hs38 TI.hby38 TI.hzs38 (by decide) rfl rfl rfl rfl (fun _ h => rp9 h) (by rw [List.flatten_cons,List.flatten_nil,List.append_nil]; exact itC_one hq1) (by unfold maxLen; rw [List.nil_append]; omega) (by rw [List.nil_append]; omega) (fun v30 => ?_)) ?_
       ·
        refine ⟨⟨rfl,rfl,trivial⟩,?_⟩
        refine AH_turn (P':=rowR itC 2 38 v30 (x.2.2 ++ [(ins.getD x.1 it0)])) 151 rfl (fun h hp => row_it hp) ?_
        refine (Y9 [9] ?_)
        refine Z9 rfl rfl (Oc9 200 [0,5,6,7,151,152,153] [] rfl Tryz.call21 rfl rfl rfl (by decide) (by decide) (good_next hlt.1 hlt.2 hxm his v30 _ (rs9 4 rfl rowR_rd) (datI_star 2 rfl (fun _ h => h))) (fun v31 Ps31 hR31 => ?_)) ?_
        ·
         obtain ⟨vt,idt,mt,lt,rfl,rfl,hit,hvt,_,_⟩:=hR31
         refine ⟨⟨rfl,rfl,trivial⟩,?_⟩
         refine (T9 10 rfl rfl (Pm9 rfl rfl) (T9 11 rfl rfl (Pe9 rfl rfl rfl) (T9 12 rfl rfl (Pe9 rfl rfl rfl) (Y9 [14] ?_))))
         refine Ac09 rfl rfl rfl (OpT_storeAll (r:=152) rfl Tryz.sizeOf50 rfl rfl rfl (refC_len zeroId_length) (refC_len hit) (refC_one hvt) ?_) ?_
         ·
          refine ⟨⟨rfl,rfl,trivial⟩,?_⟩
          refine (T9 15 rfl rfl (Pg9 rfl rfl) (Ad9 (by kernel_rfl) ?_))
          exact X_cut () trivial (a9 rfl) (a9 rfl)
         exact An9
        exact An9
       exact An9
      exact An9
     exact An9
    refine Z9 rfl rfl (OpT_buildRows (r:=152) [itC (ins.getD x.1 it0)] rfl rfl Tryz.runUnderlying24 Tryz.sizeOf38 Tryz.zeroValue38 rfl (by decide) rfl (by decide) (by intro r hr; simp at hr; rw [hr]; rfl) rfl (fun v29 => ⟨⟨rfl,rfl,trivial⟩,?_⟩)) ?_
    ·
     refine (Y9 [2,13] ?_)
     refine Z9 rfl rfl (Oa9 (r:=151) (r2:=7) rfl Tryz.underlying24 TI.hi38 TI.hz38 TI.hs38 TI.hby38 TI.hzs38 (by decide) rfl rfl rfl rfl rowR_rd hones (by unfold maxLen; rw [List.length_nil]; omega) (by rw [List.length_nil]; omega) (fun v24 => ?_)) ?_
     ·
      refine ⟨⟨rfl,rfl,trivial⟩,?_⟩
      refine AH_turn (P':=rowR itC 2 38 v24 ([] ++ x.2.2)) 151 rfl (fun h hp => row_its hp (by rw [List.length_nil]) rfl) ?_
      refine (Y9 [8,13] ?_)
      refine Z9 rfl rfl (Oa9 (r:=151) (r2:=152) rfl Tryz.underlying24 TI.hi38 TI.hz38 TI.hs38 TI.hby38 TI.hzs38 (by decide) rfl rfl rfl rfl (fun _ h => rp9 h) (by rw [List.flatten_cons,List.flatten_nil,List.append_nil]; exact itC_one hq1) (by unfold maxLen; rw [List.nil_append]; omega) (by rw [List.nil_append]; omega) (fun v30 => ?_)) ?_
      ·
       refine ⟨⟨rfl,rfl,trivial⟩,?_⟩
       refine AH_turn (P':=rowR itC 2 38 v30 (x.2.2 ++ [(ins.getD x.1 it0)])) 151 rfl (fun h hp => row_it hp) ?_
       refine (Y9 [9,13] ?_)
       refine Z9 rfl rfl (Oc9 200 [0,5,6,7,151,152] [] rfl Tryz.call21 rfl rfl rfl (by decide) (by decide) (good_next hlt.1 hlt.2 hxm his v30 _ (rs9 4 rfl rowR_rd) (datI_star 2 rfl (fun _ h => h))) (fun v31 Ps31 hR31 => ?_)) ?_
       ·
        obtain ⟨vt,idt,mt,lt,rfl,rfl,hit,hvt,_,_⟩:=hR31
        refine ⟨⟨rfl,rfl,trivial⟩,?_⟩
        refine (T9 10 rfl rfl (Pm9 rfl rfl) (T9 11 rfl rfl (Pe9 rfl rfl rfl) (T9 12 rfl rfl (Pe9 rfl rfl rfl) (Y9 [13] ?_))))
        refine Z9 rfl rfl (OpT_alloc (r:=201) (cs:=(refC (.slice none 0 0) zeroId false)) rfl (zero_run (by kernel_rfl : (Tryz.prog.info? 50).bind (·.zero) = some (.agg (refC (.slice none 0 0) zeroId false).toArray))) rfl (fun g201 => ⟨⟨rfl,rfl,trivial⟩,?_⟩)) ?_
        ·
         refine (Y9 [14] ?_)
         refine Ac09 rfl rfl rfl (OpT_storeAll (r:=201) rfl Tryz.sizeOf50 rfl rfl rfl (refC_len zeroId_length) (refC_len hit) (refC_one hvt) ?_) ?_
         ·
          refine ⟨⟨rfl,rfl,trivial⟩,?_⟩
          refine (T9 15 rfl rfl (Pg9 rfl rfl) (Ad9 (by kernel_rfl) ?_))
          exact X_cut () trivial (a9 rfl) (a9 rfl)
         exact An9
        exact An9
       refine Z9 rfl rfl (OpT_alloc (r:=153) (cs:=(refC (.slice none 0 0) zeroId false)) rfl (zero_run (by kernel_rfl : (Tryz.prog.info? 50).bind (·.zero) = some (.agg (refC (.slice none 0 0) zeroId false).toArray))) rfl (fun g153 => ⟨⟨rfl,rfl,trivial⟩,?_⟩)) ?_
       ·
        refine (Y9 [9] ?_)
        refine Z9 rfl rfl (Oc9 200 [0,5,6,7,151,152,153] [] rfl Tryz.call21 rfl rfl rfl (by decide) (by decide) (good_next hlt.1 hlt.2 hxm his v30 _ (rs9 4 rfl rowR_rd) (datI_star 2 rfl (fun _ h => h))) (fun v31 Ps31 hR31 => ?_)) ?_
        ·
         obtain ⟨vt,idt,mt,lt,rfl,rfl,hit,hvt,_,_⟩:=hR31
         refine ⟨⟨rfl,rfl,trivial⟩,?_⟩
         refine (T9 10 rfl rfl (Pm9 rfl rfl) (T9 11 rfl rfl (Pe9 rfl rfl rfl) (T9 12 rfl rfl (Pe9 rfl rfl rfl) (Y9 [14] ?_))))
         refine Ac09 rfl rfl rfl (OpT_storeAll (r:=153) rfl Tryz.sizeOf50 rfl rfl rfl (refC_len zeroId_length) (refC_len hit) (refC_one hvt) ?_) ?_
         ·
          refine ⟨⟨rfl,rfl,trivial⟩,?_⟩
          refine (T9 15 rfl rfl (Pg9 rfl rfl) (Ad9 (by kernel_rfl) ?_))
          exact X_cut () trivial (a9 rfl) (a9 rfl)
         exact An9
        exact An9
       exact An9
      refine Z9 rfl rfl (OpT_alloc (r:=153) (cs:=(refC (.slice none 0 0) zeroId false)) rfl (zero_run (by kernel_rfl : (Tryz.prog.info? 50).bind (·.zero) = some (.agg (refC (.slice none 0 0) zeroId false).toArray))) rfl (fun g153 => ⟨⟨rfl,rfl,trivial⟩,?_⟩)) ?_
      ·
       refine (Y9 [8] ?_)
       refine Z9 rfl rfl (Oa9 (r:=151) (r2:=152) rfl Tryz.underlying24 TI.hi38 TI.hz38 TI.hs38 TI.hby38 TI.hzs38 (by decide) rfl rfl rfl rfl (fun _ h => rp9 h) (by rw [List.flatten_cons,List.flatten_nil,List.append_nil]; exact itC_one hq1) (by unfold maxLen; rw [List.nil_append]; omega) (by rw [List.nil_append]; omega) (fun v30 => ?_)) ?_
       ·
        refine ⟨⟨rfl,rfl,trivial⟩,?_⟩
        refine AH_turn (P':=rowR itC 2 38 v30 (x.2.2 ++ [(ins.getD x.1 it0)])) 151 rfl (fun h hp => row_it hp) ?_
        refine (Y9 [9] ?_)
        refine Z9 rfl rfl (Oc9 200 [0,5,6,7,151,152,153] [] rfl Tryz.call21 rfl rfl rfl (by decide) (by decide) (good_next hlt.1 hlt.2 hxm his v30 _ (rs9 4 rfl rowR_rd) (datI_star 2 rfl (fun _ h => h))) (fun v31 Ps31 hR31 => ?_)) ?_
        ·
         obtain ⟨vt,idt,mt,lt,rfl,rfl,hit,hvt,_,_⟩:=hR31
         refine ⟨⟨rfl,rfl,trivial⟩,?_⟩
         refine (T9 10 rfl rfl (Pm9 rfl rfl) (T9 11 rfl rfl (Pe9 rfl rfl rfl) (T9 12 rfl rfl (Pe9 rfl rfl rfl) (Y9 [14] ?_))))
         refine Ac09 rfl rfl rfl (OpT_storeAll (r:=153) rfl Tryz.sizeOf50 rfl rfl rfl (refC_len zeroId_length) (refC_len hit) (refC_one hvt) ?_) ?_
         ·
          refine ⟨⟨rfl,rfl,trivial⟩,?_⟩
          refine (T9 15 rfl rfl (Pg9 rfl rfl) (Ad9 (by kernel_rfl) ?_))
          exact X_cut () trivial (a9 rfl) (a9 rfl)
         exact An9
        exact An9
       exact An9
      exact An9
     refine Z9 rfl rfl (OpT_alloc (r:=153) (cs:=(refC (.slice none 0 0) zeroId false)) rfl (zero_run (by kernel_rfl : (Tryz.prog.info? 50).bind (·.zero) = some (.agg (refC (.slice none 0 0) zeroId false).toArray))) rfl (fun g153 => ⟨⟨rfl,rfl,trivial⟩,?_⟩)) ?_
     ·
      refine (Y9 [2] ?_)
      refine Z9 rfl rfl (Oa9 (r:=151) (r2:=7) rfl Tryz.underlying24 TI.hi38 TI.hz38 TI.hs38 TI.hby38 TI.hzs38 (by decide) rfl rfl rfl rfl rowR_rd hones (by unfold maxLen; rw [List.length_nil]; omega) (by rw [List.length_nil]; omega) (fun v24 => ?_)) ?_
      ·
       refine ⟨⟨rfl,rfl,trivial⟩,?_⟩
       refine AH_turn (P':=rowR itC 2 38 v24 ([] ++ x.2.2)) 151 rfl (fun h hp => row_its hp (by rw [List.length_nil]) rfl) ?_
       refine (Y9 [8] ?_)
       refine Z9 rfl rfl (Oa9 (r:=151) (r2:=152) rfl Tryz.underlying24 TI.hi38 TI.hz38 TI.hs38 TI.hby38 TI.hzs38 (by decide) rfl rfl rfl rfl (fun _ h => rp9 h) (by rw [List.flatten_cons,List.flatten_nil,List.append_nil]; exact itC_one hq1) (by unfold maxLen; rw [List.nil_append]; omega) (by rw [List.nil_append]; omega) (fun v30 => ?_)) ?_
       ·
        refine ⟨⟨rfl,rfl,trivial⟩,?_⟩
        refine AH_turn (P':=rowR itC 2 38 v30 (x.2.2 ++ [(ins.getD x.1 it0)])) 151 rfl (fun h hp => row_it hp) ?_
        refine (Y9 [9] ?_)
        refine Z9 rfl rfl (Oc9 200 [0,5,6,7,151,152,153] [] rfl Tryz.call21 rfl rfl rfl (by decide) (by decide) (good_next hlt.1 hlt.2 hxm his v30 _ (rs9 4 rfl rowR_rd) (datI_star 2 rfl (fun _ h => h))) (fun v31 Ps31 hR31 => ?_)) ?_
        ·
         obtain ⟨vt,idt,mt,lt,rfl,rfl,hit,hvt,_,_⟩:=hR31
         refine ⟨⟨rfl,rfl,trivial⟩,?_⟩
         refine (T9 10 rfl rfl (Pm9 rfl rfl) (T9 11 rfl rfl (Pe9 rfl rfl rfl) (T9 12 rfl rfl (Pe9 rfl rfl rfl) (Y9 [14] ?_))))
         refine Ac09 rfl rfl rfl (OpT_storeAll (r:=153) rfl Tryz.sizeOf50 rfl rfl rfl (refC_len zeroId_length) (refC_len hit) (refC_one hvt) ?_) ?_
         ·
          refine ⟨⟨rfl,rfl,trivial⟩,?_⟩
          refine (T9 15 rfl rfl (Pg9 rfl rfl) (Ad9 (by kernel_rfl) ?_))
          exact X_cut () trivial (a9 rfl) (a9 rfl)
         exact An9
        exact An9
       exact An9
      exact An9
     exact An9
    refine Z9 rfl rfl (OpT_alloc (r:=152) (cs:=(refC (.slice none 0 0) zeroId false)) rfl (zero_run (by kernel_rfl : (Tryz.prog.info? 50).bind (·.zero) = some (.agg (refC (.slice none 0 0) zeroId false).toArray))) rfl (fun g152 => ⟨⟨rfl,rfl,trivial⟩,?_⟩)) ?_
    ·
     refine (Y9 [2,7] ?_)
     refine Z9 rfl rfl (Oa9 (r:=151) (r2:=7) rfl Tryz.underlying24 TI.hi38 TI.hz38 TI.hs38 TI.hby38 TI.hzs38 (by decide) rfl rfl rfl rfl rowR_rd hones (by unfold maxLen; rw [List.length_nil]; omega) (by rw [List.length_nil]; omega) (fun v24 => ?_)) ?_
     ·
      refine ⟨⟨rfl,rfl,trivial⟩,?_⟩
      refine AH_turn (P':=rowR itC 2 38 v24 ([] ++ x.2.2)) 151 rfl (fun h hp => row_its hp (by rw [List.length_nil]) rfl) ?_
      refine (Y9 [7] ?_)
      refine Z9 rfl rfl (OpT_buildRows (r:=153) [itC (ins.getD x.1 it0)] rfl rfl Tryz.runUnderlying24 Tryz.sizeOf38 Tryz.zeroValue38 rfl (by decide) rfl (by decide) (by intro r hr; simp at hr; rw [hr]; rfl) rfl (fun v29 => ⟨⟨rfl,rfl,trivial⟩,?_⟩)) ?_
      ·
       refine (Y9 [8] ?_)
       refine Z9 rfl rfl (Oa9 (r:=151) (r2:=153) rfl Tryz.underlying24 TI.hi38 TI.hz38 TI.hs38 TI.hby38 TI.hzs38 (by decide) rfl rfl rfl rfl (fun _ h => rp9 h) (by rw [List.flatten_cons,List.flatten_nil,List.append_nil]; exact itC_one hq1) (by unfold maxLen; rw [List.nil_append]; omega) (by rw [List.nil_append]; omega) (fun v30 => ?_)) ?_
       ·
        refine ⟨⟨rfl,rfl,trivial⟩,?_⟩
        refine AH_turn (P':=rowR itC 2 38 v30 (x.2.2 ++ [(ins.getD x.1 it0)])) 151 rfl (fun h hp => row_it hp) ?_
        refine (Y9 [9] ?_)
        refine Z9 rfl rfl (Oc9 200 [0,5,6,7,151,152,153] [] rfl Tryz.call21 rfl rfl rfl (by decide) (by decide) (good_next hlt.1 hlt.2 hxm his v30 _ (rs9 4 rfl rowR_rd) (datI_star 2 rfl (fun _ h => h))) (fun v31 Ps31 hR31 => ?_)) ?_
        ·
         obtain ⟨vt,idt,mt,lt,rfl,rfl,hit,hvt,_,_⟩:=hR31
         refine ⟨⟨rfl,rfl,trivial⟩,?_⟩
         refine (T9 10 rfl rfl (Pm9 rfl rfl) (T9 11 rfl rfl (Pe9 rfl rfl rfl) (T9 12 rfl rfl (Pe9 rfl rfl rfl) (Y9 [14] ?_))))
         refine Ac09 rfl rfl rfl (OpT_storeAll (r:=152) rfl Tryz.sizeOf50 rfl rfl rfl (refC_len zeroId_length) (refC_len hit) (refC_one hvt) ?_) ?_
         ·
          refine ⟨⟨rfl,rfl,trivial⟩,?_⟩
          refine (T9 15 rfl rfl (Pg9 rfl rfl) (Ad9 (by kernel_rfl) ?_))
          exact X_cut () trivial (a9 rfl) (a9 rfl)
         exact An9
        exact An9
       exact An9
      exact An9
     refine Z9 rfl rfl (OpT_buildRows (r:=153) [itC (ins.getD x.1 it0)] rfl rfl Tryz.runUnderlying24 Tryz.sizeOf38 Tryz.zeroValue38 rfl (by decide) rfl (by decide) (by intro r hr; simp at hr; rw [hr]; rfl) rfl (fun v29 => ⟨⟨rfl,rfl,trivial⟩,?_⟩)) ?_
     ·
      refine (Y9 [2] ?_)
      refine Z9 rfl rfl (Oa9 (r:=151) (r2:=7) rfl Tryz.underlying24 TI.hi38 TI.hz38 TI.hs38 TI.hby38 TI.hzs38 (by decide) rfl rfl rfl rfl rowR_rd hones (by unfold maxLen; rw [List.length_nil]; omega) (by rw [List.length_nil]; omega) (fun v24 => ?_)) ?_
      ·
       refine ⟨⟨rfl,rfl,trivial⟩,?_⟩
       refine AH_turn (P':=rowR itC 2 38 v24 ([] ++ x.2.2)) 151 rfl (fun h hp => row_its hp (by rw [List.length_nil]) rfl) ?_
       refine (Y9 [8] ?_)
       refine Z9 rfl rfl (Oa9 (r:=151) (r2:=153) rfl Tryz.underlying24 TI.hi38 TI.hz38 TI.hs38 TI.hby38 TI.hzs38 (by decide) rfl rfl rfl rfl (fun _ h => rp9 h) (by rw [List.flatten_cons,List.flatten_nil,List.append_nil]; exact itC_one hq1) (by unfold maxLen; rw [List.nil_append]; omega) (by rw [List.nil_append]; omega) (fun v30 => ?_)) ?_
       ·
        refine ⟨⟨rfl,rfl,trivial⟩,?_⟩
        refine AH_turn (P':=rowR itC 2 38 v30 (x.2.2 ++ [(ins.getD x.1 it0)])) 151 rfl (fun h hp => row_it hp) ?_
        refine (Y9 [9] ?_)
        refine Z9 rfl rfl (Oc9 200 [0,5,6,7,151,152,153] [] rfl Tryz.call21 rfl rfl rfl (by decide) (by decide) (good_next hlt.1 hlt.2 hxm his v30 _ (rs9 4 rfl rowR_rd) (datI_star 2 rfl (fun _ h => h))) (fun v31 Ps31 hR31 => ?_)) ?_
        ·
         obtain ⟨vt,idt,mt,lt,rfl,rfl,hit,hvt,_,_⟩:=hR31
         refine ⟨⟨rfl,rfl,trivial⟩,?_⟩
         refine (T9 10 rfl rfl (Pm9 rfl rfl) (T9 11 rfl rfl (Pe9 rfl rfl rfl) (T9 12 rfl rfl (Pe9 rfl rfl rfl) (Y9 [14] ?_))))
         refine Ac09 rfl rfl rfl (OpT_storeAll (r:=152) rfl Tryz.sizeOf50 rfl rfl rfl (refC_len zeroId_length) (refC_len hit) (refC_one hvt) ?_) ?_
         ·
          refine ⟨⟨rfl,rfl,trivial⟩,?_⟩
          refine (T9 15 rfl rfl (Pg9 rfl rfl) (Ad9 (by kernel_rfl) ?_))
          exact X_cut () trivial (a9 rfl) (a9 rfl)
         exact An9
        exact An9
       exact An9
      exact An9
     exact An9
    exact An9
   refine Z9 rfl rfl (OpT_buildRows (r:=151) [itC (ins.getD x.1 it0)] rfl rfl Tryz.runUnderlying24 Tryz.sizeOf38 Tryz.zeroValue38 rfl (by decide) rfl (by decide) (by intro r hr; simp at hr; rw [hr]; rfl) rfl (fun v29 => ⟨⟨rfl,rfl,trivial⟩,?_⟩)) ?_
   ·
    refine (Y9 [0,13] ?_)
    refine Z9 rfl rfl (OpT_buildRows (r:=152) [] rfl rfl Tryz.runUnderlying24 Tryz.sizeOf38 Tryz.zeroValue38 rfl (by decide) rfl (by decide) (by intro r hr; simp at hr) rfl (fun v22 => ⟨⟨rfl,rfl,trivial⟩,?_⟩)) ?_
    ·
     refine AH_turn (P':=rowR itC 2 38 v22 []) 152 rfl (fun h hp => hp) ?_
     refine (Y9 [2,13] ?_)
     refine Z9 rfl rfl (Oa9 (r:=152) (r2:=7) rfl Tryz.underlying24 TI.hi38 TI.hz38 TI.hs38 TI.hby38 TI.hzs38 (by decide) rfl rfl rfl rfl rowR_rd hones (by unfold maxLen; rw [List.length_nil]; omega) (by rw [List.length_nil]; omega) (fun v24 => ?_)) ?_
     ·
      refine ⟨⟨rfl,rfl,trivial⟩,?_⟩
      refine AH_turn (P':=rowR itC 2 38 v24 ([] ++ x.2.2)) 152 rfl (fun h hp => row_its hp (by rw [List.length_nil]) rfl) ?_
      refine (Y9 [8,13] ?_)
      refine Z9 rfl rfl (Oa9 (r:=152) (r2:=151) rfl Tryz.underlying24 TI.hi38 TI.hz38 TI.hs38 TI.hby38 TI.hzs38 (by decide) rfl rfl rfl rfl (fun _ h => rp9 h) (by rw [List.flatten_cons,List.flatten_nil,List.append_nil]; exact itC_one hq1) (by unfold maxLen; rw [List.nil_append]; omega) (by rw [List.nil_append]; omega) (fun v30 => ?_)) ?_
      ·
       refine ⟨⟨rfl,rfl,trivial⟩,?_⟩
       refine AH_turn (P':=rowR itC 2 38 v30 (x.2.2 ++ [(ins.getD x.1 it0)])) 152 rfl (fun h hp => row_it hp) ?_
       refine (Y9 [9,13] ?_)
       refine Z9 rfl rfl (Oc9 200 [0,5,6,7,151,152] [] rfl Tryz.call21 rfl rfl rfl (by decide) (by decide) (good_next hlt.1 hlt.2 hxm his v30 _ (rs9 5 rfl rowR_rd) (datI_star 2 rfl (fun _ h => h))) (fun v31 Ps31 hR31 => ?_)) ?_
       ·
        obtain ⟨vt,idt,mt,lt,rfl,rfl,hit,hvt,_,_⟩:=hR31
        refine ⟨⟨rfl,rfl,trivial⟩,?_⟩
        refine (T9 10 rfl rfl (Pm9 rfl rfl) (T9 11 rfl rfl (Pe9 rfl rfl rfl) (T9 12 rfl rfl (Pe9 rfl rfl rfl) (Y9 [13] ?_))))
        refine Z9 rfl rfl (OpT_alloc (r:=201) (cs:=(refC (.slice none 0 0) zeroId false)) rfl (zero_run (by kernel_rfl : (Tryz.prog.info? 50).bind (·.zero) = some (.agg (refC (.slice none 0 0) zeroId false).toArray))) rfl (fun g201 => ⟨⟨rfl,rfl,trivial⟩,?_⟩)) ?_
        ·
         refine (Y9 [14] ?_)
         refine Ac09 rfl rfl rfl (OpT_storeAll (r:=201) rfl Tryz.sizeOf50 rfl rfl rfl (refC_len zeroId_length) (refC_len hit) (refC_one hvt) ?_) ?_
         ·
          refine ⟨⟨rfl,rfl,trivial⟩,?_⟩
          refine (T9 15 rfl rfl (Pg9 rfl rfl) (Ad9 (by kernel_rfl) ?_))
          exact X_cut () trivial (a9 rfl) (a9 rfl)
         exact An9
        exact An9
       refine Z9 rfl rfl (OpT_alloc (r:=153) (cs:=(refC (.slice none 0 0) zeroId false)) rfl (zero_run (by kernel_rfl : (Tryz.prog.info? 50).bind (·.zero) = some (.agg (refC (.slice none 0 0) zeroId false).toArray))) rfl (fun g153 => ⟨⟨rfl,rfl,trivial⟩,?_⟩)) ?_
       ·
        refine (Y9 [9] ?_)
        refine Z9 rfl rfl (Oc9 200 [0,5,6,7,151,152,153] [] rfl Tryz.call21 rfl rfl rfl (by decide) (by decide) (good_next hlt.1 hlt.2 hxm his v30 _ (rs9 5 rfl rowR_rd) (datI_star 2 rfl (fun _ h => h))) (fun v31 Ps31 hR31 => ?_)) ?_
        ·
         obtain ⟨vt,idt,mt,lt,rfl,rfl,hit,hvt,_,_⟩:=hR31
         refine ⟨⟨rfl,rfl,trivial⟩,?_⟩
         refine (T9 10 rfl rfl (Pm9 rfl rfl) (T9 11 rfl rfl (Pe9 rfl rfl rfl) (T9 12 rfl rfl (Pe9 rfl rfl rfl) (Y9 [14] ?_))))
         refine Ac09 rfl rfl rfl (OpT_storeAll (r:=153) rfl Tryz.sizeOf50 rfl rfl rfl (refC_len zeroId_length) (refC_len hit) (refC_one hvt) ?_) ?_
         ·
          refine ⟨⟨rfl,rfl,trivial⟩,?_⟩
          refine (T9 15 rfl rfl (Pg9 rfl rfl) (Ad9 (by kernel_rfl) ?_))
          exact X_cut () trivial (a9 rfl) (a9 rfl)
         exact An9
        exact An9
       exact An9
      refine Z9 rfl rfl (OpT_alloc (r:=153) (cs:=(refC (.slice none 0 0) zeroId false)) rfl (zero_run (by kernel_rfl : (Tryz.prog.info? 50).bind (·.zero) = some (.agg (refC (.slice none 0 0) zeroId false).toArray))) rfl (fun g153 => ⟨⟨rfl,rfl,trivial⟩,?_⟩)) ?_
      ·
       refine (Y9 [8] ?_)
       refine Z9 rfl rfl (Oa9 (r:=152) (r2:=151) rfl Tryz.underlying24 TI.hi38 TI.hz38 TI.hs38 TI.hby38 TI.hzs38 (by decide) rfl rfl rfl rfl (fun _ h => rp9 h) (by rw [List.flatten_cons,List.flatten_nil,List.append_nil]; exact itC_one hq1) (by unfold maxLen; rw [List.nil_append]; omega) (by rw [List.nil_append]; omega) (fun v30 => ?_)) ?_
       ·
        refine ⟨⟨rfl,rfl,trivial⟩,?_⟩
        refine AH_turn (P':=rowR itC 2 38 v30 (x.2.2 ++ [(ins.getD x.1 it0)])) 152 rfl (fun h hp => row_it hp) ?_
        refine (Y9 [9] ?_)
        refine Z9 rfl rfl (Oc9 200 [0,5,6,7,151,152,153] [] rfl Tryz.call21 rfl rfl rfl (by decide) (by decide) (good_next hlt.1 hlt.2 hxm his v30 _ (rs9 5 rfl rowR_rd) (datI_star 2 rfl (fun _ h => h))) (fun v31 Ps31 hR31 => ?_)) ?_
        ·
         obtain ⟨vt,idt,mt,lt,rfl,rfl,hit,hvt,_,_⟩:=hR31
         refine ⟨⟨rfl,rfl,trivial⟩,?_⟩
         refine (T9 10 rfl rfl (Pm9 rfl rfl) (T9 11 rfl rfl (Pe9 rfl rfl rfl) (T9 12 rfl rfl (Pe9 rfl rfl rfl) (Y9 [14] ?_))))
         refine Ac09 rfl rfl rfl (OpT_storeAll (r:=153) rfl Tryz.sizeOf50 rfl rfl rfl (refC_len zeroId_length) (refC_len hit) (refC_one hvt) ?_) ?_
         ·
          refine ⟨⟨rfl,rfl,trivial⟩,?_⟩
          refine (T9 15 rfl rfl (Pg9 rfl rfl) (Ad9 (by kernel_rfl) ?_))
          exact X_cut () trivial (a9 rfl) (a9 rfl)
         exact An9
        exact An9
       exact An9
      exact An9
     refine Z9 rfl rfl (OpT_alloc (r:=153) (cs:=(refC (.slice none 0 0) zeroId false)) rfl (zero_run (by kernel_rfl : (Tryz.prog.info? 50).bind (·.zero) = some (.agg (refC (.slice none 0 0) zeroId false).toArray))) rfl (fun g153 => ⟨⟨rfl,rfl,trivial⟩,?_⟩)) ?_
     ·
      refine (Y9 [2] ?_)
      refine Z9 rfl rfl (Oa9 (r:=152) (r2:=7) rfl Tryz.underlying24 TI.hi38 TI.hz38 TI.hs38 TI.hby38 TI.hzs38 (by decide) rfl rfl rfl rfl rowR_rd hones (by unfold maxLen; rw [List.length_nil]; omega) (by rw [List.length_nil]; omega) (fun v24 => ?_)) ?_
      ·
       refine ⟨⟨rfl,rfl,trivial⟩,?_⟩
       refine AH_turn (P':=rowR itC 2 38 v24 ([] ++ x.2.2)) 152 rfl (fun h hp => row_its hp (by rw [List.length_nil]) rfl) ?_
       refine (Y9 [8] ?_)
       refine Z9 rfl rfl (Oa9 (r:=152) (r2:=151) rfl Tryz.underlying24 TI.hi38 TI.hz38 TI.hs38 TI.hby38 TI.hzs38 (by decide) rfl rfl rfl rfl (fun _ h => rp9 h) (by rw [List.flatten_cons,List.flatten_nil,List.append_nil]; exact itC_one hq1) (by unfold maxLen; rw [List.nil_append]; omega) (by rw [List.nil_append]; omega) (fun v30 => ?_)) ?_
       ·
        refine ⟨⟨rfl,rfl,trivial⟩,?_⟩
        refine AH_turn (P':=rowR itC 2 38 v30 (x.2.2 ++ [(ins.getD x.1 it0)])) 152 rfl (fun h hp => row_it hp) ?_
        refine (Y9 [9] ?_)
        refine Z9 rfl rfl (Oc9 200 [0,5,6,7,151,152,153] [] rfl Tryz.call21 rfl rfl rfl (by decide) (by decide) (good_next hlt.1 hlt.2 hxm his v30 _ (rs9 5 rfl rowR_rd) (datI_star 2 rfl (fun _ h => h))) (fun v31 Ps31 hR31 => ?_)) ?_
        ·
         obtain ⟨vt,idt,mt,lt,rfl,rfl,hit,hvt,_,_⟩:=hR31
         refine ⟨⟨rfl,rfl,trivial⟩,?_⟩
         refine (T9 10 rfl rfl (Pm9 rfl rfl) (T9 11 rfl rfl (Pe9 rfl rfl rfl) (T9 12 rfl rfl (Pe9 rfl rfl rfl) (Y9 [14] ?_))))
         refine Ac09 rfl rfl rfl (OpT_storeAll (r:=153) rfl Tryz.sizeOf50 rfl rfl rfl (refC_len zeroId_length) (refC_len hit) (refC_one hvt) ?_) ?_
         ·
          refine ⟨⟨rfl,rfl,trivial⟩,?_⟩
          refine (T9 15 rfl rfl (Pg9 rfl rfl) (Ad9 (by kernel_rfl) ?_))
          exact X_cut () trivial (a9 rfl) (a9 rfl)
         exact An9
        exact An9
       exact An9
      exact An9
     exact An9
    refine Z9 rfl rfl (OpT_alloc (r:=152) (cs:=(refC (.slice none 0 0) zeroId false)) rfl (zero_run (by kernel_rfl : (Tryz.prog.info? 50).bind (·.zero) = some (.agg (refC (.slice none 0 0) zeroId false).toArray))) rfl (fun g152 => ⟨⟨rfl,rfl,trivial⟩,?_⟩)) ?_
    ·
     refine (Y9 [0] ?_)
     refine Z9 rfl rfl (OpT_buildRows (r:=153) [] rfl rfl Tryz.runUnderlying24 Tryz.sizeOf38 Tryz.zeroValue38 rfl (by decide) rfl (by decide) (by intro r hr; simp at hr) rfl (fun v22 => ⟨⟨rfl,rfl,trivial⟩,?_⟩)) ?_
     ·
      refine AH_turn (P':=rowR itC 2 38 v22 []) 153 rfl (fun h hp => hp) ?_
      refine (Y9 [2] ?_)
      refine Z9 rfl rfl (Oa9 (r:=153) (r2:=7) rfl Tryz.underlying24 TI.hi38 TI.hz38 TI.hs38 TI.hby38 TI.hzs38 (by decide) rfl rfl rfl rfl rowR_rd hones (by unfold maxLen; rw [List.length_nil]; omega) (by rw [List.length_nil]; omega) (fun v24 => ?_)) ?_
      ·
       refine ⟨⟨rfl,rfl,trivial⟩,?_⟩
       refine AH_turn (P':=rowR itC 2 38 v24 ([] ++ x.2.2)) 153 rfl (fun h hp => row_its hp (by rw [List.length_nil]) rfl) ?_
       refine (Y9 [8] ?_)
       refine Z9 rfl rfl (Oa9 (r:=153) (r2:=151) rfl Tryz.underlying24 TI.hi38 TI.hz38 TI.hs38 TI.hby38 TI.hzs38 (by decide) rfl rfl rfl rfl (fun _ h => rp9 h) (by rw [List.flatten_cons,List.flatten_nil,List.append_nil]; exact itC_one hq1) (by unfold maxLen; rw [List.nil_append]; omega) (by rw [List.nil_append]; omega) (fun v30 => ?_)) ?_
       ·
        refine ⟨⟨rfl,rfl,trivial⟩,?_⟩
        refine AH_turn (P':=rowR itC 2 38 v30 (x.2.2 ++ [(ins.getD x.1 it0)])) 153 rfl (fun h hp => row_it hp) ?_
        refine (Y9 [9] ?_)
        refine Z9 rfl rfl (Oc9 200 [0,5,6,7,151,152,153] [] rfl Tryz.call21 rfl rfl rfl (by decide) (by decide) (good_next hlt.1 hlt.2 hxm his v30 _ (rs9 6 rfl rowR_rd) (datI_star 2 rfl (fun _ h => h))) (fun v31 Ps31 hR31 => ?_)) ?_
        ·
         obtain ⟨vt,idt,mt,lt,rfl,rfl,hit,hvt,_,_⟩:=hR31
         refine ⟨⟨rfl,rfl,trivial⟩,?_⟩
         refine (T9 10 rfl rfl (Pm9 rfl rfl) (T9 11 rfl rfl (Pe9 rfl rfl rfl) (T9 12 rfl rfl (Pe9 rfl rfl rfl) (Y9 [14] ?_))))
         refine Ac09 rfl rfl rfl (OpT_storeAll (r:=152) rfl Tryz.sizeOf50 rfl rfl rfl (refC_len zeroId_length) (refC_len hit) (refC_one hvt) ?_) ?_
         ·
          refine ⟨⟨rfl,rfl,trivial⟩,?_⟩
          refine (T9 15 rfl rfl (Pg9 rfl rfl) (Ad9 (by kernel_rfl) ?_))
          exact X_cut () trivial (a9 rfl) (a9 rfl)
         exact An9
        exact An9
       exact An9
      exact An9
     exact An9
    exact An9
   refine Z9 rfl rfl (OpT_alloc (r:=151) (cs:=(refC (.slice none 0 0) zeroId false)) rfl (zero_run (by kernel_rfl : (Tryz.prog.info? 50).bind (·.zero) = some (.agg (refC (.slice none 0 0) zeroId false).toArray))) rfl (fun g151 => ⟨⟨rfl,rfl,trivial⟩,?_⟩)) ?_
   ·
    refine (Y9 [0,7] ?_)
    refine Z9 rfl rfl (OpT_buildRows (r:=152) [] rfl rfl Tryz.runUnderlying24 Tryz.sizeOf38 Tryz.zeroValue38 rfl (by decide) rfl (by decide) (by intro r hr; simp at hr) rfl (fun v22 => ⟨⟨rfl,rfl,trivial⟩,?_⟩)) ?_
    ·
     refine AH_turn (P':=rowR itC 2 38 v22 []) 152 rfl (fun h hp => hp) ?_
     refine (Y9 [2,7] ?_)
     refine Z9 rfl rfl (Oa9 (r:=152) (r2:=7) rfl Tryz.underlying24 TI.hi38 TI.hz38 TI.hs38 TI.hby38 TI.hzs38 (by decide) rfl rfl rfl rfl rowR_rd hones (by unfold maxLen; rw [List.length_nil]; omega) (by rw [List.length_nil]; omega) (fun v24 => ?_)) ?_
     ·
      refine ⟨⟨rfl,rfl,trivial⟩,?_⟩
      refine AH_turn (P':=rowR itC 2 38 v24 ([] ++ x.2.2)) 152 rfl (fun h hp => row_its hp (by rw [List.length_nil]) rfl) ?_
      refine (Y9 [7] ?_)
      refine Z9 rfl rfl (OpT_buildRows (r:=153) [itC (ins.getD x.1 it0)] rfl rfl Tryz.runUnderlying24 Tryz.sizeOf38 Tryz.zeroValue38 rfl (by decide) rfl (by decide) (by intro r hr; simp at hr; rw [hr]; rfl) rfl (fun v29 => ⟨⟨rfl,rfl,trivial⟩,?_⟩)) ?_
      ·
       refine (Y9 [8] ?_)
       refine Z9 rfl rfl (Oa9 (r:=152) (r2:=153) rfl Tryz.underlying24 TI.hi38 TI.hz38 TI.hs38 TI.hby38 TI.hzs38 (by decide) rfl rfl rfl rfl (fun _ h => rp9 h) (by rw [List.flatten_cons,List.flatten_nil,List.append_nil]; exact itC_one hq1) (by unfold maxLen; rw [List.nil_append]; omega) (by rw [List.nil_append]; omega) (fun v30 => ?_)) ?_
       ·
        refine ⟨⟨rfl,rfl,trivial⟩,?_⟩
        refine AH_turn (P':=rowR itC 2 38 v30 (x.2.2 ++ [(ins.getD x.1 it0)])) 152 rfl (fun h hp => row_it hp) ?_
        refine (Y9 [9] ?_)
        refine Z9 rfl rfl (Oc9 200 [0,5,6,7,151,152,153] [] rfl Tryz.call21 rfl rfl rfl (by decide) (by decide) (good_next hlt.1 hlt.2 hxm his v30 _ (rs9 5 rfl rowR_rd) (datI_star 2 rfl (fun _ h => h))) (fun v31 Ps31 hR31 => ?_)) ?_
        ·
         obtain ⟨vt,idt,mt,lt,rfl,rfl,hit,hvt,_,_⟩:=hR31
         refine ⟨⟨rfl,rfl,trivial⟩,?_⟩
         refine (T9 10 rfl rfl (Pm9 rfl rfl) (T9 11 rfl rfl (Pe9 rfl rfl rfl) (T9 12 rfl rfl (Pe9 rfl rfl rfl) (Y9 [14] ?_))))
         refine Ac09 rfl rfl rfl (OpT_storeAll (r:=151) rfl Tryz.sizeOf50 rfl rfl rfl (refC_len zeroId_length) (refC_len hit) (refC_one hvt) ?_) ?_
         ·
          refine ⟨⟨rfl,rfl,trivial⟩,?_⟩
          refine (T9 15 rfl rfl (Pg9 rfl rfl) (Ad9 (by kernel_rfl) ?_))
          exact X_cut () trivial (a9 rfl) (a9 rfl)
         exact An9
        exact An9
       exact An9
      exact An9
     refine Z9 rfl rfl (OpT_buildRows (r:=153) [itC (ins.getD x.1 it0)] rfl rfl Tryz.runUnderlying24 Tryz.sizeOf38 Tryz.zeroValue38 rfl (by decide) rfl (by decide) (by intro r hr; simp at hr; rw [hr]; rfl) rfl (fun v29 => ⟨⟨rfl,rfl,trivial⟩,?_⟩)) ?_
     ·
      refine (Y9 [2] ?_)
      refine Z9 rfl rfl (Oa9 (r:=152) (r2:=7) rfl Tryz.underlying24 TI.hi38 TI.hz38 TI.hs38 TI.hby38 TI.hzs38 (by decide) rfl rfl rfl rfl rowR_rd hones (by unfold maxLen; rw [List.length_nil]; omega) (by rw [List.length_nil]; omega) (fun v24 => ?_)) ?_
      ·
       refine ⟨⟨rfl,rfl,trivial⟩,?_⟩
       refine AH_turn (P':=rowR itC 2 38 v24 ([] ++ x.2.2)) 152 rfl (fun h hp => row_its hp (by rw [List.length_nil]) rfl) ?_
       refine (Y9 [8] ?_)
       refine Z9 rfl rfl (Oa9 (r:=152) (r2:=153) rfl Tryz.underlying24 TI.hi38 TI.hz38 TI.hs38 TI.hby38 TI.hzs38 (by decide) rfl rfl rfl rfl (fun _ h => rp9 h) (by rw [List.flatten_cons,List.flatten_nil,List.append_nil]; exact itC_one hq1) (by unfold maxLen; rw [List.nil_append]; omega) (by rw [List.nil_append]; omega) (fun v30 => ?_)) ?_
       ·
        refine ⟨⟨rfl,rfl,trivial⟩,?_⟩
        refine AH_turn (P':=rowR itC 2 38 v30 (x.2.2 ++ [(ins.getD x.1 it0)])) 152 rfl (fun h hp => row_it hp) ?_
        refine (Y9 [9] ?_)
        refine Z9 rfl rfl (Oc9 200 [0,5,6,7,151,152,153] [] rfl Tryz.call21 rfl rfl rfl (by decide) (by decide) (good_next hlt.1 hlt.2 hxm his v30 _ (rs9 5 rfl rowR_rd) (datI_star 2 rfl (fun _ h => h))) (fun v31 Ps31 hR31 => ?_)) ?_
        ·
         obtain ⟨vt,idt,mt,lt,rfl,rfl,hit,hvt,_,_⟩:=hR31
         refine ⟨⟨rfl,rfl,trivial⟩,?_⟩
         refine (T9 10 rfl rfl (Pm9 rfl rfl) (T9 11 rfl rfl (Pe9 rfl rfl rfl) (T9 12 rfl rfl (Pe9 rfl rfl rfl) (Y9 [14] ?_))))
         refine Ac09 rfl rfl rfl (OpT_storeAll (r:=151) rfl Tryz.sizeOf50 rfl rfl rfl (refC_len zeroId_length) (refC_len hit) (refC_one hvt) ?_) ?_
         ·
          refine ⟨⟨rfl,rfl,trivial⟩,?_⟩
          refine (T9 15 rfl rfl (Pg9 rfl rfl) (Ad9 (by kernel_rfl) ?_))
          exact X_cut () trivial (a9 rfl) (a9 rfl)
         exact An9
        exact An9
       exact An9
      exact An9
     exact An9
    refine Z9 rfl rfl (OpT_buildRows (r:=152) [itC (ins.getD x.1 it0)] rfl rfl Tryz.runUnderlying24 Tryz.sizeOf38 Tryz.zeroValue38 rfl (by decide) rfl (by decide) (by intro r hr; simp at hr; rw [hr]; rfl) rfl (fun v29 => ⟨⟨rfl,rfl,trivial⟩,?_⟩)) ?_
    ·
     refine (Y9 [0] ?_)
     refine Z9 rfl rfl (OpT_buildRows (r:=153) [] rfl rfl Tryz.runUnderlying24 Tryz.sizeOf38 Tryz.zeroValue38 rfl (by decide) rfl (by decide) (by intro r hr; simp at hr) rfl (fun v22 => ⟨⟨rfl,rfl,trivial⟩,?_⟩)) ?_
     ·
      refine AH_turn (P':=rowR itC 2 38 v22 []) 153 rfl (fun h hp => hp) ?_
      refine (Y9 [2] ?_)
      refine Z9 rfl rfl (Oa9 (r:=153) (r2:=7) rfl Tryz.underlying24 TI.hi38 TI.hz38 TI.hs38 TI.hby38 TI.hzs38 (by decide) rfl rfl rfl rfl rowR_rd hones (by unfold maxLen; rw [List.length_nil]; omega) (by rw [List.length_nil]; omega) (fun v24 => ?_)) ?_
      ·
       refine ⟨⟨rfl,rfl,trivial⟩,?_⟩
       refine AH_turn (P':=rowR itC 2 38 v24 ([] ++ x.2.2)) 153 rfl (fun h hp => row_its hp (by rw [List.length_nil]) rfl) ?_
       refine (Y9 [8] ?_)
       refine Z9 rfl rfl (Oa9 (r:=153) (r2:=152) rfl Tryz.underlying24 TI.hi38 TI.hz38 TI.hs38 TI.hby38 TI.hzs38 (by decide) rfl rfl rfl rfl (fun _ h => rp9 h) (by rw [List.flatten_cons,List.flatten_nil,List.append_nil]; exact itC_one hq1) (by unfold maxLen; rw [List.nil_append]; omega) (by rw [List.nil_append]; omega) (fun v30 => ?_)) ?_
       ·
        refine ⟨⟨rfl,rfl,trivial⟩,?_⟩
        refine AH_turn (P':=rowR itC 2 38 v30 (x.2.2 ++ [(ins.getD x.1 it0)])) 153 rfl (fun h hp => row_it hp) ?_
        refine (Y9 [9] ?_)
        refine Z9 rfl rfl (Oc9 200 [0,5,6,7,151,152,153] [] rfl Tryz.call21 rfl rfl rfl (by decide) (by decide) (good_next hlt.1 hlt.2 hxm his v30 _ (rs9 6 rfl rowR_rd) (datI_star 2 rfl (fun _ h => h))) (fun v31 Ps31 hR31 => ?_)) ?_
        ·
         obtain ⟨vt,idt,mt,lt,rfl,rfl,hit,hvt,_,_⟩:=hR31
         refine ⟨⟨rfl,rfl,trivial⟩,?_⟩
         refine (T9 10 rfl rfl (Pm9 rfl rfl) (T9 11 rfl rfl (Pe9 rfl rfl rfl) (T9 12 rfl rfl (Pe9 rfl rfl rfl) (Y9 [14] ?_))))
         refine Ac09 rfl rfl rfl (OpT_storeAll (r:=151) rfl Tryz.sizeOf50 rfl rfl rfl (refC_len zeroId_length) (refC_len hit) (refC_one hvt) ?_) ?_
         ·
          refine ⟨⟨rfl,rfl,trivial⟩,?_⟩
          refine (T9 15 rfl rfl (Pg9 rfl rfl) (Ad9 (by kernel_rfl) ?_))
          exact X_cut () trivial (a9 rfl) (a9 rfl)
         exact An9
        exact An9
       exact An9
      exact An9
     exact An9
    exact An9
   exact An9
  ·
   refine Q9 (R9 (M9 rfl rfl (L9 rfl (Pn9 rfl rfl rfl (run_eql _ _ _ _ _ _)) (N9 (X9 ?_)))))
   refine C9 rfl (fun hc35 => ?_) (fun hc35 => ?_)
   ·
    have hb35 : buildE (x.2.2 ++ [(ins.getD x.1 it0)]) = 0:=by have:=of_decide_eq_true hc35; omega
    refine R9 (M9 rfl rfl (M9 rfl rfl (M9 rfl rfl (L9 rfl (Pi9 (r:=5) rfl Tryz.runUnderlying24 Tryz.sizeOf38 rfl rfl rfl rowR_rd (by omega)) (L9 rfl (Pz9 (r:=5) rfl Tryz.isAgg38 Tryz.sizeOf38 rfl rfl rowR_rd rfl (by decide) (its_all hlt.1)) (Lc9 rfl rfl (by decide) (OpT_buildRows (r:=151) [itC (ins.getD x.1 it0)] rfl rfl Tryz.runUnderlying24 Tryz.sizeOf38 Tryz.zeroValue38 rfl (by decide) rfl (by decide) (by intro r hr; simp at hr; rw [hr]; rfl) rfl (fun v41 => (Lc9 rfl rfl (by decide) (Oa9 (r:=7) (r2:=151) rfl Tryz.underlying24 TI.hi38 TI.hz38 TI.hs38 TI.hby38 TI.hzs38 (by decide) rfl rfl rfl rfl (fun _ h => rp9 h) (by rw [List.flatten_cons,List.flatten_nil,List.append_nil]; exact itC_one hq1) (by unfold maxLen; omega) (by omega) (fun v42 => ?_)))))))))))
    refine Lt9 (P':=rowR itC 2 38 v42 (x.2.2 ++ [(ins.getD x.1 it0)])) (r:=7) rfl (fun h hp => row_it hp) ?_
    refine (G9 rfl rfl (N9 (X_block (X9 ?_))))
    refine R9 (M9 rfl rfl (L9 rfl (Pn9 rfl rfl rfl (run_add _ _ _ _ _ (by omega))) (G9 rfl rfl (N9 ?_))))
    exact Xr9 (x.1 + 1,v42,x.2.2 ++ [(ins.getD x.1 it0)]) ⟨by dsimp only; omega,by dsimp only; rw [List.length_append,List.length_singleton]; omega,by dsimp only; rw [List.length_append,List.length_singleton]; omega,fun q hq => (List.mem_append.1 hq).elim (hxm q) (fun h => by rw [List.mem_singleton.1 h]; exact it_get hlt.1),hb35⟩ (by dsimp only; omega) (a9 rfl) (a9 rfl)
   ·
    refine K9 (X_block (X9 ?_))
    refine R9 (M9 rfl rfl (L9 rfl (Pn9 rfl rfl rfl (run_add _ _ _ _ _ (by omega))) (G9 rfl rfl (N9 ?_))))
    exact Xr9 (x.1 + 1,x.2.1,x.2.2) ⟨by dsimp only; omega,by dsimp only; omega,hx20,hxm,hxb⟩ (by dsimp only; omega) (a9 rfl) (a9 rfl)
 ·
  refine W_exit (X_then_exit (X_then_exit (X_block_exit (X9 ?_))))
  refine Q9 (R9 (M9 rfl rfl (G9 rfl rfl (N9 (X9 ?_)))))
  refine W_ret ?_
  refine X_turn (P':=datI x.2.2) 6 rfl (fun h hp => dat_sub hp hxm) ?_
  refine X_join [7,6] 7 (itemsP x.2.1 x.2.2) rfl (by decide) (fun h hs => hs) ?_
  exact Xq9 [7] (Ps:=[_]) (res1 Tryz.results14 rfl) rfl (by decide) ⟨x.2.2,hxb,hx20,fun q hq => his q (hxm q hq),rfl⟩
open Go.RowKit
set_option maxRecDepth 8000
theorem count_take {l : List UInt8} {k : Nat} (hk : k < l.length) : (l.take (k + 1)).count 47 = (l.take k).count 47 + (if at0 l k = 47 then 1 else 0):=by
  rw [List.take_succ_eq_append_getElem hk,List.count_append]
  have e : at0 l k = l[k]:=by simp [at0,hk]
  rw [e]
  by_cases h : l[k] = 47
  · rw [if_pos h,h]; rfl
  · rw [if_neg h]
    congr 1
    rw [List.count_eq_zero]
    intro hc
    exact h (List.mem_singleton.1 hc).symm
set_option maxHeartbeats 2000000 in
theorem treeParts_spec (v : Value) (fs : List FV) (F : HP) (hF : ∀ h,F h → rdFV v fs h) (hN : ∀ h,F h → datFV fs h) (hT : ∀ h,F h → tabsP h) : CallsS Tryz.prog 9 #[v] F [] (fun r Ps => r = .bool true ∧ Ps = []):=by
 refine callsS_enter Tryz.func9 rfl Tryz.ntmps9 (by simp) (fun E => ?_)
 refine Q9 (R9 (G9 rfl rfl (N9 (X9 (Q9 (Q9 (R9 (Lc9 rfl rfl (by decide) (Oc9 200 [0] [] rfl Tryz.call13 rfl rfl rfl (by decide) (by decide) (known10_spec _ (ts9 0 rfl hT)) (fun v18 Ps18 hR18 => ?_))))))))))
 obtain ⟨rfl,rfl⟩:=hR18
 refine (L9 rfl (Pu_un rfl rfl (run_not _)) (N9 (X9 ?_)))
 refine W_false rfl (rfl) ?_
 refine K9 (X9 ?_)
 refine Q9 (R9 (M9 rfl rfl (Lc9 rfl rfl (by decide) (Oc9 300 [0] [] rfl Tryz.call14 rfl rfl rfl (by decide) (by decide) (good_spec v fs _ (rs9 0 rfl hF) (datFV_star 0 rfl hN)) (fun v21 Ps21 hR21 => ?_)))))
 obtain ⟨xs,hxb,hxl,hxs,rfl⟩:=hR21
 skip
 refine (G9 rfl rfl (N9 (X9 ?_)))
 refine Q9 (R9 (M9 rfl rfl (Lc9 rfl rfl (by decide) (Oc9 400 [0,300] [] rfl Tryz.call16 rfl rfl rfl (by decide) (by decide) (build_spec v21 xs (by omega) (short_big hxs) _ (rs9 1 rfl (fun _ hp => itP_rd hp)) (datI_star 1 rfl (fun _ hp => itP_dat hp)) (ts9 0 rfl hT)) (fun v24 Ps24 hR24 => ?_)))))
 obtain ⟨w0,id,l0,rfl,rfl,hid,_,hgood⟩:=hR24
 refine WL_fact (r:=400) rfl (fun h hp => treeP_one hp) (fun (hvo : w0.oneCell' = true) => ?_)
 rw [hxb]
 refine (M9 rfl rfl (L9 rfl (Pe9 rfl rfl rfl) (L9 rfl (Pe9 rfl rfl rfl) (Lc9 rfl rfl (by decide) (OpT_alloc (r:=401) (cs:=(treeC (.slice none 0 0) zeroId)) rfl (zero_run (by kernel_rfl : (Tryz.prog.info? 31).bind (·.zero) = some (.agg (treeC (.slice none 0 0) zeroId).toArray))) rfl (fun g401 => (Lc09 rfl rfl (OpT_storeAll (r:=401) rfl Tryz.sizeOf31 rfl rfl rfl (treeC_length zeroId_length) (treeC_length hid) (treeC_one hvo) ?_))))))))
 refine (G9 rfl rfl (N9 (X9 ?_)))
 refine Q9 (Q9 (R9 (M9 rfl rfl (Lc9 rfl rfl (by decide) (Oc9 500 [0,300,400,401] [] rfl Tryz.call18 rfl rfl rfl (by decide) (by decide) (meets_spec v21 (.slice none 0 0) xs [] hxb build_none (by omega) (by decide) (short_big hxs) (fun x hx => absurd hx (by simp)) _ (rs9 1 rfl (fun _ hp => itP_rd hp)) (datI_star 1 rfl (fun _ hp => itP_dat hp)) (fun h _ => rd_nil0) (fun h _ x hx => absurd hx (by simp))) (fun v28 Ps28 hR28 => ?_))))))
 obtain ⟨rfl,mm,rfl,hmm⟩:=hR28
 refine (N9 (X9 ?_))
 refine C9 rfl (fun hc28 => ?_) (fun hc28 => ?_)
 ·
  refine Q9 (R9 (G9 rfl rfl (N9 (X9 ?_))))
  refine W_ret (X_then_ret ?_)
  exact Xq9 [] (Ps:=[]) (res1 Tryz.results9 rfl) rfl (by decide) ⟨rfl,rfl⟩
 ·
  refine K9 (X9 ?_)
  refine Q9 (Q9 (R9 (M9 rfl rfl (L9 rfl (Pn9 rfl rfl rfl (run_neq _ _ _ _ _ _)) (N9 (X9 ?_))))))
  refine W_false rfl (rfl) ?_
  refine K9 (X9 ?_)
  refine Q9 (Q9 ?_)
  refine W_openTree 400 700 rfl (fun es hes => ?_)
  obtain ⟨Ta,hfa,hid2,hta⟩:=hgood hxb
  obtain ⟨hel,hdl⟩:=tree_small hfa hxb hxl hxs hta hes
  have hw3:=whole3 hxb hfa hta (hmm hc28).left
  rw [← hes] at hw3
  subst hid2
  refine W_openItems 300 710 rfl ?_
  refine R9 (G9 rfl rfl (N9 (X9 ?_)))
  refine W_block ?_
  refine W_loop (α:=Nat) (fun x => [(3,v21),(4,.pointer (some ⟨g401,0,none⟩)),(6,.int .i64 (x : Int))]) (fun x => [(0,F),(710,rowR itC 2 38 v21 xs),(700,rowP 59 35 w0 (es).length (recC bvC ((es).map (fun p : EB => p.1)))),(701,datE es),(401,blk g401 31 (treeC w0 (idT Ta)))]) (fun x => x ≤ xs.length) (fun x => xs.length - x) (0) (Nat.zero_le _) (a9 rfl) (a9 rfl) (fun x hx => ?_)
  refine Q9 (Q9 (R9 (M9 rfl rfl (M9 rfl rfl (L9 rfl (Pl9 (r:=710) rfl Tryz.runUnderlying24 rfl rfl rowR_rd) (L9 rfl (Pn9 rfl rfl rfl (run_lss _ _ _ _ _ _)) (N9 (X9 ?_))))))))
  refine C9 rfl (fun hc34 => ?_) (fun hc34 => ?_)
  ·
   have hlt : x < xs.length:=by have:=of_decide_eq_true hc34; omega
   have hxm:=it_get hlt
   have hxq:=hxs _ hxm
   obtain ⟨p,hp⟩ : ∃ p,p = (xs.getD x it0).1:=⟨_,rfl⟩
   have hpl : p.length ≤ 200:=by rw [hp]; exact hxq.1
   have hls:=list_file hw3 hxb hxs hxm
   rw [← hp] at hls
   refine K9 (X9 ?_)
   refine Q9 ?_
   refine W_block ?_
   refine Q9 (R9 (M9 rfl rfl (M9 rfl rfl (L9 rfl (Pi9 (r:=710) rfl Tryz.runUnderlying24 Tryz.sizeOf38 rfl rfl rfl rowR_rd (by omega)) (L9 rfl (Pu_fieldAddrE (off:=0) rfl rfl (by kernel_rfl)) (L9 rfl (Py9 (r:=710) rfl Tryz.isAgg9 rfl rfl rowR_rd (its_get (k:=x) (j:=0) hlt (by decide))) (G9 rfl rfl (N9 (X9 (Q9 (R9 (G9 rfl rfl (N9 (X9 (Q9 (Q9 (R9 (G9 rfl rfl (N9 (X9 ?_))))))))))))))))))))
   refine W_block ?_
   rw [← hp]
   refine W_loop (α:=Nat) (fun y => [(3,v21),(4,.pointer (some ⟨g401,0,none⟩)),(6,.int .i64 (x : Int)),(7,sV p),(8,.int .i64 (((p.take y).count 47 : Nat) : Int)),(9,.int .i64 (y : Int))]) (fun y => [(0,F),(710,rowR itC 2 38 v21 xs),(700,rowP 59 35 w0 (es).length (recC bvC ((es).map (fun p : EB => p.1)))),(701,datE es),(401,blk g401 31 (treeC w0 (idT Ta)))]) (fun y => y ≤ p.length) (fun y => p.length - y) (0) (Nat.zero_le _) (a9 rfl) (a9 rfl) (fun y hy => ?_)
   have hct : (p.take y).count 47 ≤ y:=Nat.le_trans List.count_le_length (by rw [List.length_take]; omega)
   refine Q9 (Q9 (R9 (M9 rfl rfl (M9 rfl rfl (L9 rfl (Pu_lenStr rfl Tryz.underlying9 rfl) (L9 rfl (Pn9 rfl rfl rfl (run_lss _ _ _ _ _ _)) (N9 (X9 ?_))))))))
   refine C9 rfl (fun hc45 => ?_) (fun hc45 => ?_)
   ·
    have hlt2 : y < p.length:=by have:=of_decide_eq_true hc45; omega
    refine K9 (X9 ?_)
    refine Q9 ?_
    refine W_block ?_
    refine Q9 (R9 (M9 rfl rfl (M9 rfl rfl (L9 rfl (Pu_idxStr rfl Tryz.underlying9 rfl rfl (by omega)) ?_))))
    rw [Int.toNat_natCast]
    refine (L9 rfl (Pn9 rfl rfl rfl (run_eql _ _ _ _ _ _)) (N9 (X9 ?_)))
    refine C9 rfl (fun hc51 => ?_) (fun hc51 => ?_)
    ·
     have hq : at0 p y = 47:=UInt8.toNat_inj.1 (by have h9:=of_decide_eq_true hc51; simp; omega)
     refine R9 (M9 rfl rfl (L9 rfl (Pn9 rfl rfl rfl (run_add _ _ _ _ _ (by omega))) (G9 rfl rfl (N9 (X_block (X9 (R9 (M9 rfl rfl (L9 rfl (Pn9 rfl rfl rfl (run_add _ _ _ _ _ (by omega))) (G9 rfl rfl (N9 ?_)))))))))))
     exact Xr9 (y + 1) (by omega) (by omega) ⟨rfl,rfl,rfl,rfl,lookV_eq rfl (int_eq (by rw [count_take hlt2,if_pos hq]; simp)),rfl,trivial⟩ ⟨rfl,rfl,rfl,rfl,rfl,trivial⟩
    ·
     have hq : ¬ at0 p y = 47:=fun hc => by have h9:=of_decide_eq_false hc51; rw [hc] at h9; exact h9 rfl
     refine K9 (X_block (X9 ?_))
     refine R9 (M9 rfl rfl (L9 rfl (Pn9 rfl rfl rfl (run_add _ _ _ _ _ (by omega))) (G9 rfl rfl (N9 ?_))))
     exact Xr9 (y + 1) (by omega) (by omega) ⟨rfl,rfl,rfl,rfl,lookV_eq rfl (int_eq (by rw [count_take hlt2,if_neg hq]; simp)),rfl,trivial⟩ ⟨rfl,rfl,rfl,rfl,rfl,trivial⟩
   ·
    have hge2 : p.length ≤ y:=by have:=of_decide_eq_false hc45; omega
    rw [List.take_of_length_le hge2] at hct
    rw [List.take_of_length_le hge2]
    refine W_exit (X_then_exit (X_then_exit (X_block_exit (X9 ?_))))
    refine Q9 (R9 (L9 rfl (Px9 (r:=401) rfl Tryz.isAgg31 Tryz.sizeOf31 rfl rfl (treeC_length hid) (load_all (treeC_length hid))) (M9 rfl rfl (Lc9 rfl rfl (by decide) (Oc9 800 [0,401,700,701,710] [] rfl Tryz.call30 rfl rfl rfl (by decide) (by decide) (list_spec es w0 (idT Ta) hid hel hdl _ (rs9 2 rfl (fun h hp => by have h2:=rp9 hp; rw [List.length_map]; exact h2)) (ds9 3 rfl (fun _ h => h)) (ts9 0 rfl hT) p (by omega)) (fun v57 Ps57 hR57 => ?_))))))
    obtain ⟨w57,rfl,rfl⟩:=hR57
    rw [hls]
    refine (M9 rfl rfl (L9 rfl (Pe9 rfl rfl rfl) (L9 rfl (Pe9 rfl rfl rfl) (G9 rfl rfl (G9 rfl rfl (N9 (X9 ?_)))))))
    refine Q9 (Q9 (R9 (M9 rfl rfl (L9 rfl (Pn9 rfl rfl rfl (run_neq _ _ _ _ _ _)) (N9 (X9 ?_))))))
    refine W_false rfl (rfl) ?_
    refine K9 (X9 ?_)
    refine Q9 (R9 (M9 rfl rfl (L9 rfl (Pn9 rfl rfl rfl (run_lss _ _ _ _ _ _)) (N9 (X9 ?_)))))
    refine C9 rfl (fun hc63 => ?_) (fun hc63 => ?_)
    ·
     have h5 : p.count 47 < 5:=by have:=of_decide_eq_true hc63; omega
     have hfb:=path_beyond hw3 hxb hxs hxm (by rw [← hp]; exact h5)
     rw [← hp] at hfb
     refine Q9 (R9 (L9 rfl (Px9 (r:=401) rfl Tryz.isAgg31 Tryz.sizeOf31 rfl rfl (treeC_length hid) (load_all (treeC_length hid))) (M9 rfl rfl (L9 rfl (Pn9 rfl rfl rfl (run_addL p [47,120] _ _ _ (by show _ + 2 ≤ _; omega))) (Lc9 rfl rfl (by decide) (Oc9 900 [0,401,700,701,710,800] [] rfl Tryz.call19 rfl rfl rfl (by decide) (by decide) (find_spec es w0 (idT Ta) hid hel hdl _ (rs9 2 rfl (fun h hp => by have h2:=rp9 hp; rw [List.length_map]; exact h2)) (ds9 3 rfl (fun _ h => h)) (ts9 0 rfl hT) (p ++ [47,120]) (by rw [List.length_append]; show _ + 2 ≤ _; omega)) (fun v68 Ps68 hR68 => ?_)))))))
     obtain ⟨rfl,rfl⟩:=hR68
     rw [hfb]
     refine (M9 rfl rfl (L9 rfl (Pe9 rfl rfl rfl) (L9 rfl (Pe9 rfl rfl rfl) (Lc9 rfl rfl (by decide) (OpT_alloc (r:=901) (cs:=(nodeC 0 0 0 zeroId)) rfl (zero_run (by kernel_rfl : (Tryz.prog.info? 42).bind (·.zero) = some (.agg (nodeC 0 0 0 zeroId).toArray))) rfl (fun g901 => (Lc09 rfl rfl (OpT_storeAll (r:=901) rfl Tryz.sizeOf42 rfl rfl rfl (nodeC_length zeroId_length) (nodeC_length zeroId_length) (one_node _ _ _ _) ?_))))))))
     refine (G9 rfl rfl (N9 (X9 ?_)))
     refine Q9 (R9 (M9 rfl rfl (L9 rfl (Pn9 rfl rfl rfl (run_neq _ _ _ _ _ _)) (N9 (X9 ?_)))))
     refine W_false rfl (rfl) ?_
     refine K9 (X_block (X9 ?_))
     refine R9 (M9 rfl rfl (L9 rfl (Pn9 rfl rfl rfl (run_add _ _ _ _ _ (by omega))) (G9 rfl rfl (N9 ?_))))
     exact Xr9 (x + 1) (by omega) (by omega) (a9 rfl) (a9 rfl)
    ·
     refine K9 (X_block (X9 ?_))
     refine R9 (M9 rfl rfl (L9 rfl (Pn9 rfl rfl rfl (run_add _ _ _ _ _ (by omega))) (G9 rfl rfl (N9 ?_))))
     exact Xr9 (x + 1) (by omega) (by omega) (a9 rfl) (a9 rfl)
  ·
   refine W_exit (X_then_exit (X_then_exit (X_block_exit (X9 ?_))))
   refine Q9 (R9 (L9 rfl (Px9 (r:=401) rfl Tryz.isAgg31 Tryz.sizeOf31 rfl rfl (treeC_length hid) (load_all (treeC_length hid))) (Lc9 rfl rfl (by decide) (Oc9 800 [0,401,700,701,710] [] rfl Tryz.call31 rfl rfl rfl (by decide) (by decide) (read_spec es w0 (idT Ta) hid hel hdl _ (rs9 2 rfl (fun h hp => by have h2:=rp9 hp; rw [List.length_map]; exact h2)) (ds9 3 rfl (fun _ h => h)) (ts9 0 rfl hT) [47] (by decide) 0 1) (fun v75 Ps75 hR75 => ?_)))))
   obtain ⟨w75,rfl,rfl⟩:=hR75
   rw [root_read hw3]
   refine (M9 rfl rfl (L9 rfl (Pe9 rfl rfl rfl) (L9 rfl (Pe9 rfl rfl rfl) (G9 rfl rfl (G9 rfl rfl (N9 (X9 ?_)))))))
   refine Q9 (R9 (L9 rfl (Px9 (r:=401) rfl Tryz.isAgg31 Tryz.sizeOf31 rfl rfl (treeC_length hid) (load_all (treeC_length hid))) (Lc9 rfl rfl (by decide) (Oc9 900 [0,401,700,701,710,800] [] rfl Tryz.call19 rfl rfl rfl (by decide) (by decide) (find_spec es w0 (idT Ta) hid hel hdl _ (rs9 2 rfl (fun h hp => by have h2:=rp9 hp; rw [List.length_map]; exact h2)) (ds9 3 rfl (fun _ h => h)) (ts9 0 rfl hT) (47 :: nobody) (by decide)) (fun v80 Ps80 hR80 => ?_)))))
   obtain ⟨rfl,rfl⟩:=hR80
   rw [none_here hw3 hxb hxs]
   refine (M9 rfl rfl (L9 rfl (Pe9 rfl rfl rfl) (L9 rfl (Pe9 rfl rfl rfl) (Lc9 rfl rfl (by decide) (OpT_alloc (r:=901) (cs:=(nodeC 0 0 0 zeroId)) rfl (zero_run (by kernel_rfl : (Tryz.prog.info? 42).bind (·.zero) = some (.agg (nodeC 0 0 0 zeroId).toArray))) rfl (fun g901 => (Lc09 rfl rfl (OpT_storeAll (r:=901) rfl Tryz.sizeOf42 rfl rfl rfl (nodeC_length zeroId_length) (ndC_length (pathV_top _ _ _)) (one_node _ _ _ _) ?_))))))))
   refine (G9 rfl rfl (N9 (X9 ?_)))
   refine Q9 (R9 (M9 rfl rfl (L9 rfl (Pn9 rfl rfl rfl (run_eql _ _ _ _ _ _)) (M9 rfl rfl (WL_gPT rfl rfl rfl rfl rfl (by decide) (Pm9 rfl rfl) (WL_gPT rfl rfl rfl rfl rfl (by decide) (Pn9 rfl rfl rfl (run_eql _ _ _ _ _ _)) (L9 rfl (Pu_pickT rfl rfl rfl rfl) (G9 rfl rfl (N9 (X9 ?_))))))))))
   refine W_ret ?_
   exact Xq9 [] (Ps:=[]) (res1 Tryz.results9 rfl) rfl (by decide) ⟨rfl,rfl⟩
end Go.Proofs.YthkdkmaacjpneaaGreatDoor
namespace Go.Proofs.YthkdkmaacjpneaaGreatDoor
open Go.RowKit Go.ChangeShapes Go.WideShapes Go.Deep

theorem wf_i64 {n : Int} (h : (Lit.int .i64 n).wf = true) : -9223372036854775808 ≤ n ∧ n ≤ 9223372036854775807:=by
  simp only [Lit.wf,Bool.and_eq_true,decide_eq_true_eq] at h
  have h1 : IntKind.min .i64 = -9223372036854775808:=by decide
  have h2 : IntKind.max .i64 = 9223372036854775807:=by decide
  rw [h1,h2] at h
  exact h
theorem wf_u8 {n : Int} (h : (Lit.int .u8 n).wf = true) : 0 ≤ n ∧ n ≤ 255:=by
  simp only [Lit.wf,Bool.and_eq_true,decide_eq_true_eq] at h
  have h1 : IntKind.min .u8 = 0:=by decide
  have h2 : IntKind.max .u8 = 255:=by decide
  rw [h1,h2] at h
  exact h

def RdI (w : World) (v : Value) (zs : List Int) : Prop:=Rd w 1 v zs.length (zs.map (Value.int .i64))
def I64 (zs : List Int) : Prop:=∀ z ∈ zs,-9223372036854775808 ≤ z ∧ z ≤ 9223372036854775807
def RdT (w : World) (v : Value) (l : List Bool) : Prop:=Rd w 1 v l.length (l.map Value.bool)
def RdR (w : World) (v : Value) (ps : List (Value × List UInt8)) : Prop:=Rd w 1 v ps.length (ps.map (·.1)) ∧ ∀ p ∈ ps,RdB w p.1 p.2

theorem ints_of (vs : List Value) (h : ∀ u ∈ vs,∃ n,u = .int .i64 n ∧ (Lit.int .i64 n).wf = true) : ∃ zs : List Int,vs = zs.map (Value.int .i64) ∧ I64 zs:=by
  induction vs with
  | nil => exact ⟨[],rfl,by simp [I64]⟩
  | cons u vs ih =>
    obtain ⟨zs,rfl,hz⟩:=ih fun x hx => h x (List.mem_cons_of_mem _ hx)
    obtain ⟨n,rfl,hw⟩:=h u (List.mem_cons_self ..)
    refine ⟨n :: zs,rfl,fun z hm => ?_⟩
    rcases List.mem_cons.1 hm with rfl | hm
    · exact wf_i64 hw
    · exact hz z hm
theorem pairs_of {α β : Type} {R : α → β → Prop} (vs : List α) (h : ∀ u ∈ vs,∃ y,R u y) : ∃ ps : List (α × β),vs = ps.map (·.1) ∧ ∀ p ∈ ps,R p.1 p.2:=by
  induction vs with
  | nil => exact ⟨[],rfl,by simp⟩
  | cons u vs ih =>
    obtain ⟨ps,rfl,hp⟩:=ih fun x hx => h x (List.mem_cons_of_mem _ hx)
    obtain ⟨y,hy⟩:=h u (List.mem_cons_self ..)
    refine ⟨(u,y) :: ps,rfl,fun p hm => ?_⟩
    rcases List.mem_cons.1 hm with rfl | hm
    · exact hy
    · exact hp p hm

section
variable {H : Type} {enc : TypeId × Value → H} {P : Program} {w : World} {base : Nat} {spare : Nat → Bool} {held : Bool}

theorem slice1_of {t e : TypeId} {fuel : Nat} {v : Value} {x : DataW H × List MemPlace} (ht : P.underlying t = some (.slice e)) (hc : P.cellsOf e = 1) (h : DataW.trod enc P w base spare held fuel t [v] = some x) :
    ∃ vs : List Value,Rd w 1 v vs.length vs ∧ vs.length ≤ maxLen ∧ ∀ u ∈ vs,∃ n y,DataW.trod enc P w base spare held n e [u] = some y:=by
  rcases open_slice1 ht hc h with ⟨h1,_⟩ | ⟨a,len,cap,m,n,V,D,Pl,h1,hb,hl,hm,hmm,hx,hV⟩
  · injection h1 with h1; subst h1
    exact ⟨[],⟨rfl,none,0,rfl,Nat.le_refl _,fun _ => rfl,fun ad h => by cases h⟩,by unfold maxLen; simp,by simp⟩
  · injection h1 with h1; subst h1
    have hle : len ≤ m:=by rw [hmm]; split <;> omega
    refine ⟨(List.range len).map V,⟨by simp,some a,cap,by simp,by simpa using hl,(fun h => by cases h),fun ad had => ?_⟩,by simp; omega,fun u hu => ?_⟩
    · injection had with had; subst had
      refine ⟨fun hp => ?_,fun j u hu => ?_⟩
      · have:=(hV 0 (by simp at hp; omega)).1
        have:=World.block_lt_of_cell? _ _ this
        rwa [block_of_add] at this
      · simp only [List.getElem?_map] at hu
        have hj : j < len:=by
          rcases Nat.lt_or_ge j len with h | h
          · exact h
          · simp [List.getElem?_eq_none (show (List.range len).length ≤ j by simpa using h)] at hu
        simp [List.getElem?_range hj] at hu
        subst hu
        exact (hV j (by omega)).1
    · simp only [List.mem_map,List.mem_range] at hu
      obtain ⟨i,hi,rfl⟩:=hu
      exact ⟨n,_,(hV i (by omega)).2⟩

theorem rdI_of {t e : TypeId} {fuel : Nat} {v : Value} {x : DataW H × List MemPlace} (ht : P.underlying t = some (.slice e)) (he : P.underlying e = some (.int .i64)) (hc : P.cellsOf e = 1) (h : DataW.trod enc P w base spare held fuel t [v] = some x) :
    ∃ l,RdI w v l ∧ I64 l ∧ l.length ≤ maxLen:=by
  obtain ⟨vs,hr,hm,hu⟩:=slice1_of ht hc h
  obtain ⟨l,rfl,hl⟩:=ints_of vs fun u hmem => by
    obtain ⟨n,y,hy⟩:=hu u hmem
    obtain ⟨k,h1,_,h3⟩:=DataW.trod_int he hy
    injection h1 with h1
    exact ⟨k,h1,h3⟩
  rw [List.length_map] at hr hm
  exact ⟨l,hr,hl,hm⟩
theorem rows_of {t e : TypeId} {fs : Array Field} {fuel : Nat} {v : Value} {x : DataW H × List MemPlace} (ht : P.underlying t = some (.slice e)) (he : P.underlying e = some (.struct fs))
    (hone : oneCellFields P fs = true) (hS : 0 < fs.size) (hC : P.cellsOf e = fs.size) (h : DataW.trod enc P w base spare held fuel t [v] = some x) :
    ∃ rs : List (List Value),Rd w fs.size v rs.length rs.flatten ∧ rs.length ≤ maxLen ∧ ∀ r ∈ rs,r.length = fs.size ∧
      ∀ (j : Nat) (f : Field),fs[j]? = some f → ∃ u n y,r[j]? = some u ∧ DataW.trod enc P w base spare held n f.type [u] = some y:=by
  rcases open_slice ht h with ⟨h1,_⟩ | ⟨a,len,cap,m,n,D,Pl,h1,hb,hl,hm,hmm,hx,hi⟩
  · injection h1 with h1; subst h1
    exact ⟨[],⟨by simp,none,0,rfl,Nat.le_refl _,fun _ => rfl,fun ad h => by cases h⟩,by unfold maxLen; simp,by simp⟩
  · injection h1 with h1; subst h1
    have hle : len ≤ m:=by rw [hmm]; split <;> omega
    rw [hC] at hi
    obtain ⟨V,hV⟩:=choose_lt (α:=List Value) (p:=fun i cs' => w.cells? base (a.add (i * fs.size)) fs.size = some cs' ∧ DataW.trod enc P w base spare held n e cs' = some (D i,Pl i)) (n:=m) (fun i him => hi i him)
    have hfl : ∀ i,i < len → (V i).length = fs.size:=fun i h => (World.cells?_some (hV i (by omega)).1).2.1
    have hlen : ∀ k,k ≤ len → ((List.range k).map V).flatten.length = k * fs.size:=by
      intro k hk
      induction k with
      | zero => simp
      | succ k ih =>
        rw [List.range_succ,List.map_append,List.flatten_append,List.length_append,ih (by omega)]
        simp [hfl k (by omega),Nat.add_mul]
    have hget : ∀ k,k ≤ len → ∀ (j : Nat) (u : Value),((List.range k).map V).flatten[j]? = some u → w.cell? (a.add j) = some u:=by
      intro k hk
      induction k with
      | zero => intro j u hu; simp at hu
      | succ k ih =>
        intro j u hu
        rw [List.range_succ,List.map_append,List.flatten_append,List.getElem?_append,hlen k (by omega)] at hu
        split at hu
        · exact ih (by omega) j u hu
        · simp only [List.map_cons,List.map_nil,List.flatten_cons,List.flatten_nil,List.append_nil] at hu
          have hj : j - k * fs.size < fs.size:=by
            have:=(List.getElem?_eq_some_iff.1 hu).1
            rw [hfl k (by omega)] at this
            exact this
          have h2:=(World.cells?_some (hV k (by omega)).1).2.2 (j - k * fs.size) hj
          rw [add_of_add,show k * fs.size + (j - k * fs.size) = j by omega] at h2
          rw [h2,hu]
    refine ⟨(List.range len).map V,⟨by rw [hlen len (Nat.le_refl _)]; simp,some a,cap,by simp,by simpa using hl,(fun h => by cases h),fun ad had => ?_⟩,by simp; omega,fun r hr => ?_⟩
    · injection had with had; subst had
      refine ⟨fun hp => ?_,hget len (Nat.le_refl _)⟩
      have hp' : 0 < len:=by simpa using hp
      have h0:=(hV 0 (by omega)).1
      have h1:=(World.cells?_some h0).2.2 0 hS
      rw [List.getElem?_eq_getElem (by rw [hfl 0 hp']; exact hS)] at h1
      have:=World.block_lt_of_cell? _ _ h1
      rwa [block_of_add,block_of_add] at this
    · simp only [List.mem_map,List.mem_range] at hr
      obtain ⟨i,hil,rfl⟩:=hr
      obtain ⟨hc,htd⟩:=hV i (by omega)
      obtain ⟨ys,n',hn',hy,hlen',hyl,hf⟩:=DataW.trod_struct he htd
      refine ⟨hfl i hil,fun j f hj => ?_⟩
      obtain ⟨ho,hk⟩:=hone_of hone j f hj
      have hjl : j < fs.size:=(Array.getElem?_eq_some_iff.1 hj).1
      have h1:=hf j f hj
      rw [ho,hk] at h1
      have hvl:=hfl i hil
      have hone' : ((V i).drop j).take 1 = [(V i)[j]'(by omega)]:=by
        rw [List.drop_eq_getElem_cons (by omega)]
        rfl
      rw [hone',List.getElem?_eq_getElem (by omega)] at h1
      exact ⟨_,n',_,List.getElem?_eq_getElem (by omega),h1⟩
end

section
variable {H : Type} {enc : TypeId × Value → H} {P : Program} {w : World} {base b0 : Nat} {spare : Nat → Bool} {held : Bool} {r : Reach} {t : TypeId} {v : Value} {d : DataW H} {ps : List MemPlace}
theorem op_slice {e : TypeId} (ht : P.underlying t = some (.slice e)) (hv : Value.okWide P w r b0 t v) (h : DataW.Trod enc P w base spare held t v d ps) : ∃ fuel,DataW.trod enc P w base spare held fuel t [v] = some (d,ps):=by
  obtain ⟨a,len,cap,rfl⟩:=okWide_slice ht hv
  obtain ⟨fuel,hf⟩:=h
  exact ⟨fuel,by simpa [Value.cells] using hf⟩
end
end Go.Proofs.YthkdkmaacjpneaaGreatDoor
namespace Go.Proofs.YthkdkmaacjpneaaGreatDoor
open Go.RowKit Go.ChangeShapes Go.WideShapes Go.Deep
section
variable {H : Type} {enc : TypeId × Value → H} {P : Program} {w : World} {base : Nat} {spare : Nat → Bool} {held : Bool}
def Tr (enc : TypeId × Value → H) (P : Program) (w : World) (base : Nat) (spare : Nat → Bool) (held : Bool) (t : TypeId) (cs : List Value) : Prop:=∃ fuel x,DataW.trod enc P w base spare held fuel t cs = some x
theorem Tr.int {t : TypeId} {cs : List Value} (ht : P.underlying t = some (.int .i64)) (h : Tr enc P w base spare held t cs) : ∃ n,cs = [.int .i64 n] ∧ -9223372036854775808 ≤ n ∧ n ≤ 9223372036854775807:=by
  obtain ⟨f,x,h⟩:=h
  obtain ⟨n,rfl,_,hw⟩:=DataW.trod_int ht h
  exact ⟨n,rfl,wf_i64 hw⟩
theorem Tr.bool {t : TypeId} {cs : List Value} (ht : P.underlying t = some .bool) (h : Tr enc P w base spare held t cs) : ∃ b,cs = [Value.bool b]:=by
  obtain ⟨f,x,h⟩:=h
  obtain ⟨b,rfl,_⟩:=DataW.trod_bool ht h
  exact ⟨b,rfl⟩
theorem Tr.u8 {t : TypeId} {cs : List Value} (ht : P.underlying t = some (.int .u8)) (h : Tr enc P w base spare held t cs) : ∃ x,cs = [bv x]:=by
  obtain ⟨f,x,h⟩:=h
  obtain ⟨n,rfl,_,hw⟩:=DataW.trod_int ht h
  have:=wf_u8 hw
  refine ⟨UInt8.ofNat n.toNat,?_⟩
  simp only [bv]
  congr 2
  rw [UInt8.toNat_ofNat']
  omega
theorem Tr.struct {t : TypeId} {cs : List Value} {fs : Array Field} (ht : P.underlying t = some (.struct fs)) (h : Tr enc P w base spare held t cs) : cs.length = P.cellsOf t ∧ ∀ (i : Nat) (f : Field),fs[i]? = some f → Tr enc P w base spare held f.type ((cs.drop f.offset).take (P.cellsOf f.type)):=by
  obtain ⟨f,x,h⟩:=h
  obtain ⟨xs,n,_,_,hl,hx,hf⟩:=DataW.trod_struct ht h
  refine ⟨hl,fun i f hi => ?_⟩
  have h1:=hf i f hi
  have hlt : i < xs.length:=by rw [hx]; exact (Array.getElem?_eq_some_iff.1 hi).1
  rw [List.getElem?_eq_getElem hlt] at h1
  exact ⟨n,_,h1⟩
theorem Tr.array {t e : TypeId} {n : Nat} {cs : List Value} (ht : P.underlying t = some (.array n e)) (h : Tr enc P w base spare held t cs) : cs.length = P.cellsOf t ∧ ∀ i,i < n → Tr enc P w base spare held e ((cs.drop (i * P.cellsOf e)).take (P.cellsOf e)):=by
  obtain ⟨f,x,h⟩:=h
  obtain ⟨xs,m,_,_,hl,hx,hf⟩:=DataW.trod_array ht h
  refine ⟨hl,fun i hi => ?_⟩
  have h1:=hf i hi
  rw [List.getElem?_eq_getElem (by omega)] at h1
  exact ⟨m,_,h1⟩
theorem Tr.bytes {t e : TypeId} {n : Nat} {cs : List Value} (ht : P.underlying t = some (.array n e)) (he : P.underlying e = some (.int .u8)) (hc : P.cellsOf e = 1) (hn : P.cellsOf t = n) (h : Tr enc P w base spare held t cs) : ∃ l,cs = bs l ∧ l.length = n:=by
  obtain ⟨hl,hf⟩:=h.array ht
  rw [hn] at hl
  rw [hc] at hf
  have key : ∀ (cs : List Value),(∀ i,i < cs.length → Tr enc P w base spare held e ((cs.drop (i * 1)).take 1)) → ∃ l,cs = bs l:=by
    intro cs
    induction cs with
    | nil => intro _; exact ⟨[],rfl⟩
    | cons u cs ih =>
      intro h
      obtain ⟨l,rfl⟩:=ih (fun i hi => by
        have:=h (i + 1) (by simpa using hi)
        simpa using this)
      obtain ⟨x,hx⟩:=(h 0 (by simp)).u8 he
      simp at hx
      exact ⟨x :: l,by simp [bs,hx]⟩
  obtain ⟨l,rfl⟩:=key cs (fun i hi => hf i (by omega))
  exact ⟨l,rfl,by rw [← hl,bs_length]⟩
end
section
variable {H : Type} {enc : TypeId × Value → H} {P : Program} {w : World} {base b0 : Nat} {spare : Nat → Bool} {held : Bool} {r : Reach} {t : TypeId} {v : Value} {d : DataW H} {ps : List MemPlace}
end
end Go.Proofs.YthkdkmaacjpneaaGreatDoor
namespace Go.Proofs.YthkdkmaacjpneaaGreatDoor
open Go.RowKit Go.ChangeShapes Go.WideShapes Go.Deep
section
variable {H : Type} {enc : TypeId × Value → H} {P : Program} {w : World} {base : Nat} {spare : Nat → Bool} {held : Bool}
end
end Go.Proofs.YthkdkmaacjpneaaGreatDoor
namespace Go.Proofs.YthkdkmaacjpneaaGreatDoor
open Go.RowKit Go.ChangeShapes Go.WideShapes Go.Deep
section
variable {H : Type} {enc : TypeId × Value → H} {P : Program} {w : World} {base b0 : Nat} {spare : Nat → Bool} {held : Bool} {r : Reach} {t : TypeId} {v : Value} {d : DataW H} {ps : List MemPlace}
end
end Go.Proofs.YthkdkmaacjpneaaGreatDoor
namespace Go.Proofs.YthkdkmaacjpneaaGreatDoor
open Go.RowKit Go.ChangeShapes Go.WideShapes Go.Deep
section
variable {H : Type} {enc : TypeId × Value → H} {w : World} {base : Nat} {spare : Nat → Bool} {held : Bool} {v : Value}
theorem rdFiles_of {fuel : Nat} {x : DataW H × List MemPlace} (h : DataW.trod enc Tryz.prog w base spare held fuel 22 [v] = some x) :
    ∃ fs : List FV,(Rd w 3 v fs.length (recC fileC fs) ∧ ∀ f ∈ fs,Rd w 1 f.2.1 f.1.length (is f.1)) ∧ fs.length ≤ maxLen:=by
  obtain ⟨rs,hr,hm,hrs⟩:=rows_of Tryz.underlying22 Tryz.underlying97 (by kernel_rfl) (by decide) (by kernel_rfl) h
  obtain ⟨cs,hcs,hp⟩:=pairs_of (R:=fun (r : List Value) (c : FV) => r = fileC c ∧ Rd w 1 c.2.1 c.1.length (is c.1)) rs fun r hrm => by
    obtain ⟨hl,hf⟩:=hrs r hrm
    obtain ⟨u0,n0,y0,e0,t0⟩:=hf 0 _ rfl
    obtain ⟨u1,n1,y1,e1,t1⟩:=hf 1 _ rfl
    obtain ⟨u2,n2,y2,e2,t2⟩:=hf 2 _ rfl
    obtain ⟨l,hl2,_⟩:=rdI_of Tryz.underlying61 Tryz.underlying3 (by kernel_rfl) t0
    obtain ⟨a,ha,_,wa⟩:=DataW.trod_int Tryz.underlying3 t1
    obtain ⟨b,hb⟩:=Tr.u8 Tryz.underlying5 (cs:=[u2]) ⟨n2,y2,t2⟩
    injection ha with ha; injection hb with hb
    subst ha; subst hb
    refine ⟨⟨l,u0,a,b⟩,?_,hl2⟩
    match r,hl with
    | [r0,r1,r2],_ =>
      simp at e0 e1 e2
      subst e0; subst e1; subst e2
      rfl
  subst hcs
  rw [List.length_map] at hr hm
  refine ⟨cs.map (·.2),⟨?_,fun c hc => ?_⟩,by simpa using hm⟩
  · have he : recC fileC (cs.map (·.2)) = (cs.map (·.1)).flatten:=by
      unfold recC
      rw [List.map_map]
      congr 1
      refine List.map_congr_left fun p hpm => ?_
      exact (hp p hpm).1.symm
    rw [he,List.length_map]
    exact hr
  · simp only [List.mem_map] at hc
    obtain ⟨p,hpm,rfl⟩:=hc
    exact (hp p hpm).2
end
open Go.RowKit
theorem treeParts_any (W : World) (hT : ∀ h,orig W h → tabsP h) (v0 : Value) (l0 : List FV) (hr0 : Rd W 3 v0 l0.length (recC fileC l0) ∧ ∀ f ∈ l0,Rd W 1 f.2.1 f.1.length (is f.1)) (hl0 : l0.length ≤ maxLen) :
    Calls Tryz.prog 9 #[v0] W fun e W' => e = .returned (.bool true) ∧ Chg [] W W' :=
  calls_law ((treeParts_spec v0 l0 (orig W) (fun h hp => Rd.orig hr0.1 h hp) (fun h hp f hf => Rd.orig (hr0.2 f hf) h hp) hT).imp fun v Ps h => h.1)
end Go.Proofs.YthkdkmaacjpneaaGreatDoor
namespace Go.Proofs.YthkdkmaacjpneaaGreatDoor
open Go.RowKit Go.Lib
set_option maxRecDepth 100000
theorem first_eq : Go.Pinned.utf8First = firstData:=by kernel_rfl
theorem accept_eq : (Rows.laid_unicode_utf8_acceptRanges : DataW Unit) = acceptData:=by kernel_rfl
def laidL : List (String × DataW Unit):=[("unicode/utf8.acceptRanges",Rows.laid_unicode_utf8_acceptRanges),("unicode/utf8.first",Rows.laid_unicode_utf8_first)]
theorem tabs_of_laid {W : World} (h : laidMetH Tryz.prog laidL W) (hsh : W.ShapedOpen Tryz.prog) : ∀ h,orig W h → tabsP h:=by
  rw [MakeChecks.laidMetH_plain _ _ _ (by kernel_rfl)] at h
  have h3 : VarReads Tryz.prog W "unicode/utf8.first" firstData:=by
    rw [← first_eq]
    exact laidMet.reads h (List.mem_cons_of_mem _ List.mem_cons_self)
  have h4 : VarReads Tryz.prog W "unicode/utf8.acceptRanges" acceptData:=by
    rw [← accept_eq]
    exact laidMet.reads h List.mem_cons_self
  refine orig_tabs (utf8Tabs_of_reads lays260 laysU h3 h4) ?_
  exact cell_of_shapedOpen_int (zero:=#[.int .i64 0]) (t:=3) hsh (of_decide_eq_true (by kernel_rfl)) (by kernel_rfl) rfl (by kernel_rfl) (by kernel_rfl) Tryz.underlying3
def lay (cs : List Value) : Obj → Obj
  | .cells _ t frozen => .cells cs.toArray t frozen
  | o => o
def firstCells : List Value:=(List.range 256).map fun c => Value.int .u8 (firstT c : Int)
def acceptCells : List Value:=((List.range 16).map fun i => [Value.int .u8 (accLo i : Int),Value.int .u8 (accHi i : Int)]).flatten
noncomputable def laidWorld (os : Os) : World :=
  { World.holding Tryz.prog os ⟨#[],#[],[]⟩ with heap:=((World.holding Tryz.prog os ⟨#[],#[],[]⟩).heap.modify 1 (lay firstCells)).modify 2 (lay acceptCells) }
theorem laid_met (os : Os) (args : Array Value) : laidMet Tryz.prog laidL ((laidWorld os).forCall (fun _ _ => 0) ⟨#[],args,[]⟩).memory :=
  laidMet_of_run' 8 (by kernel_rfl) (by kernel_rfl)
end Go.Proofs.YthkdkmaacjpneaaGreatDoor
