/- Texts of this proof, one behind the other: TreeAB, TreeAC, TreeRl, TreeLn, TiF, TreeAD, Open, Open2, Open3, Open4, OpenF, TreeAE, LaidN. -/
import Derived.Test.YthkdkmaacjpneaaGreatDoorK6
import Derived.Test.YthkdkmaacjpneaaGreatDoorK5
import Derived.Test.YthkdkmaacjpneaaGreatDoorK1
import Derived.ProofKit
import Derived.Deep.Slices
import Derived.Deep.Fields
import Derived.ChangeOld
import Derived.OpenShut
import Derived.SizedLaws
import Derived.ChangeMaps5
import Derived.Test.YthkdkmaacjpneaaGreatDoorRows
import Derived.Test.YthkdkmaacjpneaaGreatDoorK3
import Derived.Lib.LaidU8
import Derived.Shelf.Vars
import Derived.MakeChecks
set_option linter.unusedVariables false
set_option linter.unusedSimpArgs false
set_option linter.unusedSectionVars false
/- Trees: items of some files. -/
namespace Go.Proofs.YthkdkmaacjpneaaGreatDoor
open Go.RowKit
set_option maxRecDepth 8000
section
variable {P : Program}
theorem run_mulU8 (a b : UInt8) (t : TypeId) (x y : Operand) (w : World) : ((do eqGuard .mul t x y (bv a) (bv b); binOp .mul t (bv a) (bv b) : Sem Value)).run P w = .ok (bv (a * b)) w:=by
  have : IntKind.u8.wrap ((a.toNat : Int) * (b.toNat : Int)) = ((a * b).toNat : Int):=by
    rw [u8_wrap,UInt8.toNat_mul]
    norm_cast
  simp [bv,eqGuard,binOp,Op.intArith,this]
end
theorem bs_setI (l : List UInt8) (i : Nat) (x : UInt8) : (bs l).set i (bv x) = bs (l.set i x):=by simp [bs,List.map_set]
abbrev FV:=List Int × Value × Int × UInt8
def fv0 : FV:=([],.slice none 0 0,0,0)
def fileC (f : FV) : List Value:=[f.2.1,.int .i64 f.2.2.1,bv f.2.2.2]
abbrev rdFV (v : Value) (fs : List FV) : HP:=rdR fileC 3 v fs
def datFV (fs : List FV) : HP:=fun h => ∀ f ∈ fs,rdN f.2.1 f.1 h
theorem fvs_len (fs : List FV) : ∀ f ∈ fs,(fileC f).length = 3:=fun _ _ => rfl
theorem fv_get {fs : List FV} {k j : Nat} (hk : k < fs.length) (hj : j < 3) : (recC fileC fs)[k * 3 + j]? = (fileC (fs.getD k fv0))[j]?:=recC_at (d:=fv0) (fvs_len fs) hk hj
theorem fv_nv {fs : List FV} {k : Nat} (hk : k < fs.length) : (recC fileC fs)[k * 3 + 0]? = some (fs.getD k fv0).2.1:=fv_get hk (by decide)
theorem fv_size {fs : List FV} {k : Nat} (hk : k < fs.length) : (recC fileC fs)[k * 3 + 1]? = some (.int .i64 (fs.getD k fv0).2.2.1):=fv_get hk (by decide)
theorem fv_by {fs : List FV} {k : Nat} (hk : k < fs.length) : (recC fileC fs)[k * 3 + 2]? = some (bv (fs.getD k fv0).2.2.2):=fv_get hk (by decide)
def itemsP (v : Value) (xs : List F3) : HP:=fun h => starL [rowR itC 2 38 v xs,datI xs] h
def Short3 (xs : List F3) : Prop:=∀ x ∈ xs,x.1.length ≤ 200 ∧ x.2.2.length ≤ 1100
theorem Short3.snoc {xs : List F3} (h : Short3 xs) {x : F3} (h1 : x.1.length ≤ 200) (h2 : x.2.2.length ≤ 1100) : Short3 (xs ++ [x]):=fun y hy => by
  rcases List.mem_append.1 hy with hy | hy
  · exact h y hy
  · rw [List.mem_singleton.1 hy]; exact ⟨h1,h2⟩
def five : List (List UInt8):=[[97],[98],[99],[100,100],[195,169]]
theorem five_len {m : Nat} : (five.getD m []).length ≤ 2:=by
  by_cases h : m < 5
  · have : ∀ k : Fin 5,(five.getD k.val []).length ≤ 2:=by decide
    exact this ⟨m,h⟩
  · rw [List.getD_eq_getElem?_getD,List.getElem?_eq_none (show five.length ≤ m by show 5 ≤ m; omega)]
    decide
theorem row_it {e : TypeId} {v : Value} {xs : List F3} {z : F3} {h : Hlt} (hp : rowP e 2 v (xs.length + 1) (recC itC xs ++ [itC z].flatten) h) : rowR itC 2 e v (xs ++ [z]) h:=by
  unfold rowR
  rw [List.length_append,recC_append,recC_one]
  simpa using hp
theorem datI_add {xs : List F3} {p d : List UInt8} {v : Value} {t : TypeId} {h : Hlt} (hs : starL [datI xs,rowB t v d] h) : datI (xs ++ [(p,v,d)]) h:=fun x hx => by
  rcases List.mem_append.1 hx with hx | hx
  · exact starL_le hs (φ:=rdB x.2.1 x.2.2) 0 rfl fun h' h1 h2 => rdP_le h2 (h1 x hx)
  · rw [List.mem_singleton.1 hx]; exact starL_le hs (φ:=rdB v d) 1 rfl fun h' h1 h2 => rdP_le h2 (rp9 h1)
theorem W_openItems {P : Program} {E : Env} {n : Nat} {K : Slots} {L : Res} {Q : Exit → Act → World → Prop} {c : Code} (r b : Nat) {v : Value} {xs : List F3} (hr : look L r = some (itemsP v xs))
    (k : W P E n c K (En b [rowR itC 2 38 v xs,datI xs] ++ (r,emp) :: L) Q) : W P E n c K L Q:=W_split r b _ hr (fun h hp => hp) k
theorem datI_star {Js : List HP} {P : HP} {xs : List F3} (k : Nat) (hk : Js[k]? = some P) (hp : ∀ h,P h → datI xs h) : ∀ h,starL Js h → datI xs h:=fun h hs x hx => rs9 k hk (fun h' hh => hp h' hh x hx) h hs
theorem items_spec (v : Value) (fs : List FV) (F : HP) (hF : ∀ h,F h → rdFV v fs h) (hN : ∀ h,F h → datFV fs h) : CallsS Tryz.prog 20 #[v] F [] (fun r Ps => ∃ xs : List F3,xs.length ≤ 22 ∧ Short3 xs ∧ Ps = [itemsP r xs]):=by
 refine callsS_enter Tryz.func20 rfl Tryz.ntmps20 (by simp) (fun E => ?_)
 refine Q9 ?_
 refine J9 [(0,_)] [(0,_)] ?_ ⟨rfl,trivial⟩ ⟨rfl,trivial⟩
 refine R9 (G9 rfl rfl rfl (N9 (X9 ?_)))
 refine Q9 ?_
 refine J9 [(0,_),(2,_)] [(0,_)] ?_ ⟨rfl,rfl,trivial⟩ ⟨rfl,trivial⟩
 refine W_nilRow 3 38 2 ?_
 refine W_nilRow 4 5 1 ?_
 refine Wt9 (P':=datI []) 4 rfl (fun h _ p hp => absurd hp (by simp)) ?_
 refine Wt9 (P':=rowR itC 2 38 (.slice none 0 0) []) 3 rfl (fun h hp => hp) ?_
 refine R9 (G9 rfl rfl rfl (N9 (X9 ?_)))
 refine Q9 ?_
 refine Q9 ?_
 refine J9 [(0,_),(2,_),(3,_)] [(0,_),(3,_),(4,_)] ?_ ⟨rfl,rfl,rfl,trivial⟩ ⟨rfl,rfl,rfl,trivial⟩
 refine R9 (G9 rfl rfl rfl (N9 (X9 ?_)))
 refine W_block ?_
 refine W_loop (α:=Nat × Value × List F3) (fun x => [(0,v),(3,x.2.1),(4,.int .i64 (x.1 : Int))]) (fun x => [(0,F),(3,rowR itC 2 38 x.2.1 x.2.2),(4,datI x.2.2)]) (fun x => x.1 ≤ fs.length ∧ x.1 ≤ 22 ∧ x.2.2.length ≤ x.1 ∧ Short3 x.2.2) (fun x => fs.length - x.1) ((0,.slice none 0 0,[])) ⟨Nat.zero_le _,Nat.zero_le _,Nat.le_refl _,fun q hq => absurd hq (by simp)⟩ (a9 rfl) (a9 rfl) (fun x hx => ?_)
 obtain ⟨hx,hx22,hxl,hxs⟩:=hx
 refine Q9 ?_
 refine Q9 ?_
 refine J9 [(0,_),(3,_),(4,_)] [(0,_),(3,_),(4,_)] ?_ ⟨rfl,rfl,rfl,trivial⟩ ⟨rfl,rfl,rfl,trivial⟩
 refine R9 (M9 rfl rfl rfl (M9 rfl rfl rfl (L9 rfl rfl (Pl9 (r:=0) rfl Tryz.runUnderlying22 rfl rfl hF) (L9 rfl rfl (Pn9 rfl rfl rfl (run_lss _ _ _ _ _ _)) (M9 rfl rfl rfl (Lg9 rfl rfl rfl rfl (by decide) (fun hb => (Pm9 rfl rfl)) (Lg9 rfl rfl rfl rfl (by decide) (fun hb => (Pn9 rfl (ev_gv rfl hb) rfl (run_lss _ _ _ _ _ _))) (L9 rfl rfl (Pu_and rfl rfl rfl) (N9 (X9 ?_))))))))))
 refine C9 rfl (fun hc16 => ?_) (fun hc16 => ?_)
 ·
  have hlt : x.1 < fs.length ∧ x.1 < 22:=by simp only [Bool.and_eq_true,decide_eq_true_eq] at hc16; omega
  have hfm : fs.getD x.1 fv0 ∈ fs:=getD_mem' hlt.1
  have hfn : ∀ h,F h → rdN (fs.getD x.1 fv0).2.1 (fs.getD x.1 fv0).1 h:=fun h hp => hN h hp _ hfm
  refine K9 (X9 ?_)
  refine Q9 ?_
  refine W_block ?_
  refine Q9 ?_
  refine J9 [(0,_),(3,_),(4,_),(16,_)] [(0,_),(3,_),(4,_)] ?_ ⟨rfl,rfl,rfl,rfl,trivial⟩ ⟨rfl,rfl,rfl,trivial⟩
  refine R9 (G9 rfl rfl rfl (N9 (X9 ?_)))
  refine Q9 ?_
  refine Q9 ?_
  refine J9 [(0,_),(3,_),(4,_),(5,_),(16,_)] [(0,_),(3,_),(4,_)] ?_ ⟨rfl,rfl,rfl,rfl,rfl,trivial⟩ ⟨rfl,rfl,rfl,trivial⟩
  refine R9 (G9 rfl rfl rfl (N9 (X9 ?_)))
  refine W_block ?_
  refine W_loop (α:=Nat × List UInt8) (fun y => [(0,v),(3,x.2.1),(4,.int .i64 (x.1 : Int)),(5,sV y.2),(6,.int .i64 (y.1 : Int))]) (fun y => [(0,F),(3,rowR itC 2 38 x.2.1 x.2.2),(4,datI x.2.2)]) (fun y => y.2.length ≤ 3 * y.1 ∧ y.1 ≤ 6) (fun y => 6 - y.1) ((0,[])) ⟨Nat.le_refl _,Nat.zero_le _⟩ (a9 rfl) (a9 rfl) (fun y hy => ?_)
  obtain ⟨hy,hy6⟩:=hy
  refine Q9 ?_
  refine Q9 ?_
  refine J9 [(0,_),(3,_),(4,_),(5,_),(6,_)] [(0,_),(3,_),(4,_)] ?_ ⟨rfl,rfl,rfl,rfl,rfl,trivial⟩ ⟨rfl,rfl,rfl,trivial⟩
  refine R9 (M9 rfl rfl rfl (M9 rfl rfl rfl (M9 rfl rfl rfl (L9 rfl rfl (Pi9 (r:=0) rfl Tryz.runUnderlying22 Tryz.sizeOf97 rfl rfl rfl hF (by omega)) (L9 rfl rfl (Pu_fieldAddrE (off:=0) rfl rfl (by kernel_rfl)) (L9 rfl rfl (Py9 (r:=0) rfl Tryz.isAgg61 rfl rfl hF (fv_nv (k:=x.1) hlt.1)) (L9 rfl rfl (Pl9 (r:=0) rfl Tryz.runUnderlying61 rfl rfl hfn) (L9 rfl rfl (Pn9 rfl rfl rfl (run_lss _ _ _ _ _ _)) (M9 rfl rfl rfl (Lg9 rfl rfl rfl rfl (by decide) (fun hb => (Pm9 rfl rfl)) (Lg9 rfl rfl rfl rfl (by decide) (fun hb => (Pn9 rfl (ev_gv rfl hb) rfl (run_lss _ _ _ _ _ _))) (L9 rfl rfl (Pu_and rfl rfl rfl) (N9 (X9 ?_))))))))))))))
  refine C9 rfl (fun hc30 => ?_) (fun hc30 => ?_)
  ·
   have hlty : y.1 < (fs.getD x.1 fv0).1.length ∧ y.1 < 6:=by simp only [Bool.and_eq_true,decide_eq_true_eq] at hc30; omega
   refine K9 (X9 ?_)
   refine Q9 ?_
   refine W_block ?_
   refine J9 [(0,_),(3,_),(4,_),(5,_),(6,_),(30,_)] [(0,_),(3,_),(4,_)] ?_ ⟨rfl,rfl,rfl,rfl,rfl,rfl,trivial⟩ ⟨rfl,rfl,rfl,trivial⟩
   refine R9 (M9 rfl rfl rfl (L9 rfl rfl (Pn9 rfl rfl rfl (run_addL y.2 [47] _ _ _ (by rw [List.length_singleton]; omega))) (Lc9 rfl rfl (by decide) (OpT_buildOnes (r:=101) (ss five) rfl rfl Tryz.runUnderlying63 Tryz.sizeOf9 Tryz.zeroValue9 rfl rfl (by decide) rfl (ss_cells _) (fun v35 => ?_)))))
   refine Lt9 (P':=rowS 9 v35 five) (r:=101) rfl (fun h hp => hp) ?_
   refine (M9 rfl rfl rfl (M9 rfl rfl rfl (L9 rfl rfl (Pi9 (r:=0) rfl Tryz.runUnderlying22 Tryz.sizeOf97 rfl rfl rfl hF (by omega)) (L9 rfl rfl (Pu_fieldAddrE (off:=0) rfl rfl (by kernel_rfl)) (L9 rfl rfl (Py9 (r:=0) rfl Tryz.isAgg61 rfl rfl hF (fv_nv (k:=x.1) hlt.1)) (M9 rfl rfl rfl (L9 rfl rfl (Pu_idxS1 (r:=0) rfl Tryz.runUnderlying61 Tryz.sizeOf3 rfl rfl rfl hfn (by omega)) (L9 rfl rfl (Py9 (r:=0) rfl Tryz.isAgg3 rfl rfl hfn (is_at (k:=y.1) hlty.1)) (Lc9 rfl rfl (by decide) (Oc9 200 [0,3,4,101] [] rfl Tryz.call15 rfl rfl rfl (by decide) (by decide) (within_spec ((fs.getD x.1 fv0).1.getD y.1 0) 5 (by omega) (by omega) _) (fun v44 Ps44 hR44 => ?_)))))))))))
   obtain ⟨rfl,rfl⟩:=hR44
   obtain ⟨m,hm,hm5⟩ : ∃ m : Nat,((fs.getD x.1 fv0).1.getD y.1 0) % 5 = (m : Int) ∧ m < 5:=⟨(((fs.getD x.1 fv0).1.getD y.1 0) % 5).toNat,by omega,by omega⟩
   rw [hm]
   refine (L9 rfl rfl (Pu_idxS1 (r:=101) rfl Tryz.runUnderlying63 Tryz.sizeOf9 rfl rfl rfl rowS_rd (by show 0 ≤ _ ∧ _ < (5 : Int); omega)) (L9 rfl rfl (Py9 (r:=101) rfl Tryz.isAgg9 rfl rfl rowS_rd (ss_at (k:=m) (show m < 5 from hm5))) (L9 rfl rfl (Pn9 rfl rfl rfl (run_addL (y.2 ++ [47]) (five.getD m []) _ _ _ (by have:=five_len (m:=m); rw [List.length_append,List.length_singleton]; omega))) (G9 rfl rfl rfl (N9 (X_block (X9 ?_)))))))
   refine J9 [(0,_),(3,_),(4,_),(5,_),(6,_),(30,_)] [(0,_),(3,_),(4,_),(101,_)] ?_ ⟨rfl,rfl,rfl,rfl,rfl,rfl,trivial⟩ ⟨rfl,rfl,rfl,rfl,trivial⟩
   refine R9 (M9 rfl rfl rfl (L9 rfl rfl (Pn9 rfl rfl rfl (run_add _ _ _ _ _ (by omega))) (G9 rfl rfl rfl (N9 ?_))))
   exact Xr9 (y.1 + 1,y.2 ++ [47] ++ five.getD m []) ⟨by dsimp only; rw [List.length_append,List.length_append,List.length_singleton]; have:=five_len (m:=m); omega,by dsimp only; omega⟩ (by dsimp only; omega) (a9 rfl) (a9 rfl)
  ·
   refine W_exit (X_then_exit (X_then_exit (X_block_exit (X9 ?_))))
   refine Q9 ?_
   refine Q9 ?_
   refine J9 [(0,_),(3,_),(4,_),(5,_),(6,_),(30,_)] [(0,_),(3,_),(4,_)] ?_ ⟨rfl,rfl,rfl,rfl,rfl,rfl,trivial⟩ ⟨rfl,rfl,rfl,trivial⟩
   refine R9 (M9 rfl rfl rfl (L9 rfl rfl (Pn9 rfl rfl rfl (run_strEq y.2 [] _ _ _)) (N9 (X9 ?_))))
   refine C9 rfl (fun hc49 => ?_) (fun hc49 => ?_)
   ·
    refine J9 [(0,_),(3,_),(4,_),(5,_),(6,_),(30,_),(49,_)] [(0,_),(3,_),(4,_)] ?_ ⟨rfl,rfl,rfl,rfl,rfl,rfl,rfl,trivial⟩ ⟨rfl,rfl,rfl,trivial⟩
    refine R9 (M9 rfl rfl rfl (L9 rfl rfl (Pn9 rfl rfl rfl (run_add _ _ _ _ _ (by omega))) (L9 rfl rfl (Pu_conv rfl rfl (conv_byte _ _ Tryz.runUnderlying3 Tryz.runUnderlying5)) (Lc9 rfl rfl (by decide) (OpT_buildOnes (r:=101) (bs [byte (97 + (x.1 : Int))]) rfl rfl Tryz.runUnderlying36 Tryz.sizeOf5 Tryz.zeroValue5 rfl rfl (by decide) rfl (bs_cells _) (fun v53 => ?_))))))
    refine Lt9 (P':=rowB 5 v53 [byte (97 + (x.1 : Int))]) (r:=101) rfl (fun h hp => hp) ?_
    refine (L9 rfl rfl (Pu_convBS (r:=101) rfl Tryz.underlying36 Tryz.underlying5 Tryz.underlying9 rfl rfl rowB_rd) (L9 rfl rfl (Pn9 rfl rfl rfl (run_addL [47,122] [byte (97 + (x.1 : Int))] _ _ _ (by show (3 : Nat) ≤ _; decide))) (G9 rfl rfl rfl (N9 (X9 ?_)))))
    refine Q9 ?_
    refine J9 [(0,_),(3,_),(4,_),(5,_),(6,_),(30,_),(49,_)] [(0,_),(3,_),(4,_),(101,_)] ?_ ⟨rfl,rfl,rfl,rfl,rfl,rfl,rfl,trivial⟩ ⟨rfl,rfl,rfl,rfl,trivial⟩
    refine R9 (M9 rfl rfl rfl (M9 rfl rfl rfl (L9 rfl rfl (Pi9 (r:=0) rfl Tryz.runUnderlying22 Tryz.sizeOf97 rfl rfl rfl hF (by omega)) (L9 rfl rfl (Pu_fieldAddrE (off:=1) rfl rfl (by kernel_rfl)) (L9 rfl rfl (Py9 (r:=0) rfl Tryz.isAgg3 rfl rfl hF (fv_size (k:=x.1) hlt.1)) (Lc9 rfl rfl (by decide) (Oc9 200 [0,3,4,101] [] rfl Tryz.call15 rfl rfl rfl (by decide) (by decide) (within_spec (fs.getD x.1 fv0).2.2.1 1002 (by omega) (by omega) _) (fun v61 Ps61 hR61 => ?_))))))))
    obtain ⟨rfl,rfl⟩:=hR61
    obtain ⟨q,hq,hq2⟩ : ∃ q : Nat,(fs.getD x.1 fv0).2.2.1 % 1002 = (q : Int) ∧ q < 1002:=⟨((fs.getD x.1 fv0).2.2.1 % 1002).toNat,by omega,by omega⟩
    rw [hq]
    refine (Lc9 rfl rfl (by decide) (OpT_make (r:=201) (m:=q) rfl Tryz.underlying36 TI.hi5 TI.hz5 TI.hs5 rfl rfl (by rw [TI.hby5]; omega) (by unfold maxLen; omega) ((made_one _ _).trans (made_bytes q)) (fun v62 => ?_)))
    refine Lt9 (P':=rowB 5 v62 (List.replicate q 0)) (r:=201) rfl (fun h hp => rowB_mk hp (by rw [List.length_replicate]) rfl) ?_
    refine (G9 rfl rfl rfl (N9 (X9 ?_)))
    refine Q9 ?_
    refine Q9 ?_
    refine J9 [(0,_),(3,_),(4,_),(5,_),(6,_),(7,_),(30,_),(49,_)] [(0,_),(3,_),(4,_),(101,_),(201,_)] ?_ ⟨rfl,rfl,rfl,rfl,rfl,rfl,rfl,rfl,trivial⟩ ⟨rfl,rfl,rfl,rfl,rfl,trivial⟩
    refine R9 (G9 rfl rfl rfl (N9 (X9 ?_)))
    refine W_block ?_
    refine W_loop (α:=Nat × List UInt8) (fun z => [(0,v),(3,x.2.1),(4,.int .i64 (x.1 : Int)),(5,sV ([47,122] ++ [byte (97 + (x.1 : Int))])),(7,v62),(8,.int .i64 (z.1 : Int))]) (fun z => [(0,F),(3,rowR itC 2 38 x.2.1 x.2.2),(4,datI x.2.2),(201,rowB 5 v62 z.2)]) (fun z => z.2.length = q ∧ z.1 ≤ q) (fun z => q - z.1) ((0,List.replicate q 0)) ⟨List.length_replicate,Nat.zero_le _⟩ (a9 rfl) (a9 rfl) (fun z hz => ?_)
    obtain ⟨hz,hzq⟩:=hz
    refine Q9 ?_
    refine Q9 ?_
    refine J9 [(0,_),(3,_),(4,_),(5,_),(7,_),(8,_)] [(0,_),(3,_),(4,_),(201,_)] ?_ ⟨rfl,rfl,rfl,rfl,rfl,rfl,trivial⟩ ⟨rfl,rfl,rfl,rfl,trivial⟩
    refine R9 (M9 rfl rfl rfl (M9 rfl rfl rfl (L9 rfl rfl (Pl9 (r:=201) rfl Tryz.runUnderlying36 rfl rfl (fun _ h => rp9 h)) (L9 rfl rfl (Pn9 rfl rfl rfl (run_lss _ _ _ _ _ _)) (N9 (X9 ?_))))))
    refine C9 rfl (fun hc66 => ?_) (fun hc66 => ?_)
    ·
     have hltz : z.1 < z.2.length:=by have:=of_decide_eq_true hc66; omega
     refine K9 (X9 ?_)
     refine Q9 ?_
     refine W_block ?_
     refine J9 [(0,_),(3,_),(4,_),(5,_),(7,_),(8,_),(66,_)] [(0,_),(3,_),(4,_),(201,_)] ?_ ⟨rfl,rfl,rfl,rfl,rfl,rfl,rfl,trivial⟩ ⟨rfl,rfl,rfl,rfl,trivial⟩
     refine W_draw (N:=21) (by kernel_rfl) rfl [(0,_)] ⟨rfl,trivial⟩ ?_
     refine (T9 0 rfl (by kernel_rfl) rfl rfl (Pm9 rfl rfl) (T9 1 rfl (by kernel_rfl) rfl rfl (Pm9 rfl rfl) (T9 2 rfl (by kernel_rfl) rfl rfl (Pm9 rfl rfl) (T9 3 rfl (by kernel_rfl) rfl rfl (Pm9 rfl rfl) (T9 4 rfl (by kernel_rfl) rfl rfl (Pi9 (r:=0) rfl Tryz.runUnderlying22 Tryz.sizeOf97 rfl rfl rfl hF (by omega)) (T9 5 rfl (by kernel_rfl) rfl rfl (Pu_fieldAddrE (off:=2) rfl rfl (by kernel_rfl)) (T9 6 rfl (by kernel_rfl) rfl rfl (Py9 (r:=0) rfl Tryz.isAgg5 rfl rfl hF (fv_by (k:=x.1) hlt.1)) (T9 7 rfl (by kernel_rfl) rfl rfl (Pm9 rfl rfl) (T9 8 rfl (by kernel_rfl) rfl rfl (Pn9 rfl rfl rfl (run_quo _ _ _ _ _ (by omega))) (T9 9 rfl (by kernel_rfl) rfl rfl (Pu_conv rfl rfl (conv_byte _ _ Tryz.runUnderlying3 Tryz.runUnderlying5)) (T9 10 rfl (by kernel_rfl) rfl rfl (Pm9 rfl rfl) (T9 11 rfl (by kernel_rfl) rfl rfl (Pm9 rfl rfl) (T9 12 rfl (by kernel_rfl) rfl rfl (Pi9 (r:=0) rfl Tryz.runUnderlying22 Tryz.sizeOf97 rfl rfl rfl hF (by omega)) (T9 13 rfl (by kernel_rfl) rfl rfl (Pu_fieldAddrE (off:=1) rfl rfl (by kernel_rfl)) (T9 14 rfl (by kernel_rfl) rfl rfl (Py9 (r:=0) rfl Tryz.isAgg3 rfl rfl hF (fv_size (k:=x.1) hlt.1)) (T9 15 rfl (by kernel_rfl) rfl rfl (Pn9 rfl rfl rfl (run_tmod _ _ _ _ _ (by omega))) (T9 16 rfl (by kernel_rfl) rfl rfl (Pu_conv rfl rfl (conv_byte _ _ Tryz.runUnderlying3 Tryz.runUnderlying5)) (T9 17 rfl (by kernel_rfl) rfl rfl (Pn9 rfl rfl rfl (run_mulU8 _ _ _ _ _)) (T9 18 rfl (by kernel_rfl) rfl rfl (Pn9 rfl rfl rfl (run_addU8 _ _ _ _ _)) (Ar9 [19] (by kernel_rfl) (by decide) ?_))))))))))))))))))))
     refine Ac9 rfl rfl rfl (by decide) (Or9 (Pu_idxS1 (r:=201) rfl Tryz.runUnderlying36 Tryz.sizeOf5 rfl rfl rfl (fun _ h => rp9 h) (by omega)) ⟨⟨rfl,trivial⟩,?_⟩) ?_
     ·
      refine (Ar9 [20] (by kernel_rfl) (by decide) ?_)
      refine Ac09 rfl rfl rfl (OpT_storeS1 (r:=201) rfl Tryz.sizeOf5 rfl rfl rfl rfl (by show _ < (bs z.2).length; rw [bs_length]; omega) rfl ?_) ?_
      ·
       refine ⟨⟨rfl,trivial⟩,?_⟩
       refine AH_turn (P':=rowB 5 v62 (z.2.set z.1 ((fs.getD x.1 fv0).2.2.2 + byte ((z.1 : Int) / 64) * byte ((fs.getD x.1 fv0).2.2.1.tmod 3)))) 201 rfl (fun h hp => rowB_mk hp (by rw [List.length_set]) (by rw [← bs_setI]; rfl)) ?_
       refine (Ad9 (by kernel_rfl) (X_block (X9 ?_)))
       refine J9 [(0,_),(3,_),(4,_),(5,_),(7,_),(8,_),(66,_)] [(0,_),(3,_),(4,_),(201,_)] ?_ ⟨rfl,rfl,rfl,rfl,rfl,rfl,rfl,trivial⟩ ⟨rfl,rfl,rfl,rfl,trivial⟩
       refine R9 (M9 rfl rfl rfl (L9 rfl rfl (Pn9 rfl rfl rfl (run_add _ _ _ _ _ (by omega))) (G9 rfl rfl rfl (N9 ?_))))
       exact Xr9 (z.1 + 1,z.2.set z.1 ((fs.getD x.1 fv0).2.2.2 + byte ((z.1 : Int) / 64) * byte ((fs.getD x.1 fv0).2.2.1.tmod 3))) ⟨by dsimp only; rw [List.length_set]; exact hz,by dsimp only; omega⟩ (by dsimp only; omega) (a9 rfl) (a9 rfl)
      exact An9
     exact An9
    ·
     refine W_exit (X_then_exit (X_then_exit (X_block_exit (X9 ?_))))
     refine J9 [(0,_),(3,_),(4,_),(5,_),(7,_),(8,_),(66,_)] [(0,_),(3,_),(4,_),(201,_)] ?_ ⟨rfl,rfl,rfl,rfl,rfl,rfl,rfl,trivial⟩ ⟨rfl,rfl,rfl,rfl,trivial⟩
     refine W_fact (r:=201) rfl (fun h hp => rd_one (rowB_rd h hp)) (fun (ho62 : v62.oneCell' = true) => ?_)
     refine R9 (M9 rfl rfl rfl (M9 rfl rfl rfl (M9 rfl rfl rfl (L9 rfl rfl (Pu_build (V:=.agg (itC ([47,122] ++ [byte (97 + (x.1 : Int))],v62,z.2)).toArray) [(0,1),(1,1)] ([sV [],.slice none 0 0]) rfl rfl (by kernel_rfl) (by kernel_rfl) (.one rfl rfl (by show 0 < 2; decide) rfl (.one rfl ho62 (by show 1 < 2; decide) rfl (.nil _))) rfl) (Lc9 rfl rfl (by decide) (OpT_buildRows (r:=202) [itC ([47,122] ++ [byte (97 + (x.1 : Int))],v62,z.2)] rfl rfl Tryz.runUnderlying24 Tryz.sizeOf38 Tryz.zeroValue38 rfl (by decide) rfl (by decide) (by intro r hr; simp at hr; rw [hr]; rfl) rfl (fun v93 => (Lc9 rfl rfl (by decide) (Oa9 (r:=3) (r2:=202) rfl Tryz.underlying24 TI.hi38 TI.hz38 TI.hs38 TI.hby38 TI.hzs38 (by decide) rfl rfl rfl rfl (fun _ h => rp9 h) (by rw [List.flatten_cons,List.flatten_nil,List.append_nil]; exact itC_one ho62) (by unfold maxLen; omega) (by omega) (fun v94 => ?_))))))))))
     refine Lt9 (P':=rowR itC 2 38 v94 (x.2.2 ++ [([47,122] ++ [byte (97 + (x.1 : Int))],v62,z.2)])) (r:=3) rfl (fun h hp => row_it hp) ?_
     refine (G9 rfl rfl rfl (N9 (X_block (X9 ?_))))
     refine J9 [(0,_),(3,_),(4,_),(5,_),(7,_),(8,_),(66,_)] [(0,_),(3,_),(4,_),(201,_),(202,_)] ?_ ⟨rfl,rfl,rfl,rfl,rfl,rfl,rfl,trivial⟩ ⟨rfl,rfl,rfl,rfl,rfl,trivial⟩
     refine R9 (M9 rfl rfl rfl (L9 rfl rfl (Pn9 rfl rfl rfl (run_add _ _ _ _ _ (by omega))) (G9 rfl rfl rfl (N9 ?_))))
     refine X_join [4,201] 4 (datI (x.2.2 ++ [([47,122] ++ [byte (97 + (x.1 : Int))],v62,z.2)])) rfl (by decide) (fun h hs => datI_add hs) ?_
     exact Xr9 (x.1 + 1,v94,x.2.2 ++ [([47,122] ++ [byte (97 + (x.1 : Int))],v62,z.2)]) ⟨by dsimp only; omega,by dsimp only; omega,by dsimp only; rw [List.length_append,List.length_singleton]; omega,hxs.snoc (by simp) (by dsimp only; omega)⟩ (by dsimp only; omega) (a9 rfl) (a9 rfl)
   ·
    refine K9 (X9 ?_)
    refine Q9 ?_
    refine J9 [(0,_),(3,_),(4,_),(5,_),(6,_),(30,_),(49,_)] [(0,_),(3,_),(4,_)] ?_ ⟨rfl,rfl,rfl,rfl,rfl,rfl,rfl,trivial⟩ ⟨rfl,rfl,rfl,trivial⟩
    refine R9 (M9 rfl rfl rfl (M9 rfl rfl rfl (L9 rfl rfl (Pi9 (r:=0) rfl Tryz.runUnderlying22 Tryz.sizeOf97 rfl rfl rfl hF (by omega)) (L9 rfl rfl (Pu_fieldAddrE (off:=1) rfl rfl (by kernel_rfl)) (L9 rfl rfl (Py9 (r:=0) rfl Tryz.isAgg3 rfl rfl hF (fv_size (k:=x.1) hlt.1)) (Lc9 rfl rfl (by decide) (Oc9 200 [0,3,4] [] rfl Tryz.call15 rfl rfl rfl (by decide) (by decide) (within_spec (fs.getD x.1 fv0).2.2.1 1002 (by omega) (by omega) _) (fun v61 Ps61 hR61 => ?_))))))))
    obtain ⟨rfl,rfl⟩:=hR61
    obtain ⟨q,hq,hq2⟩ : ∃ q : Nat,(fs.getD x.1 fv0).2.2.1 % 1002 = (q : Int) ∧ q < 1002:=⟨((fs.getD x.1 fv0).2.2.1 % 1002).toNat,by omega,by omega⟩
    rw [hq]
    refine (Lc9 rfl rfl (by decide) (OpT_make (r:=201) (m:=q) rfl Tryz.underlying36 TI.hi5 TI.hz5 TI.hs5 rfl rfl (by rw [TI.hby5]; omega) (by unfold maxLen; omega) ((made_one _ _).trans (made_bytes q)) (fun v62 => ?_)))
    refine Lt9 (P':=rowB 5 v62 (List.replicate q 0)) (r:=201) rfl (fun h hp => rowB_mk hp (by rw [List.length_replicate]) rfl) ?_
    refine (G9 rfl rfl rfl (N9 (X9 ?_)))
    refine Q9 ?_
    refine Q9 ?_
    refine J9 [(0,_),(3,_),(4,_),(5,_),(6,_),(7,_),(30,_),(49,_)] [(0,_),(3,_),(4,_),(201,_)] ?_ ⟨rfl,rfl,rfl,rfl,rfl,rfl,rfl,rfl,trivial⟩ ⟨rfl,rfl,rfl,rfl,trivial⟩
    refine R9 (G9 rfl rfl rfl (N9 (X9 ?_)))
    refine W_block ?_
    refine W_loop (α:=Nat × List UInt8) (fun z => [(0,v),(3,x.2.1),(4,.int .i64 (x.1 : Int)),(5,sV (y.2)),(7,v62),(8,.int .i64 (z.1 : Int))]) (fun z => [(0,F),(3,rowR itC 2 38 x.2.1 x.2.2),(4,datI x.2.2),(201,rowB 5 v62 z.2)]) (fun z => z.2.length = q ∧ z.1 ≤ q) (fun z => q - z.1) ((0,List.replicate q 0)) ⟨List.length_replicate,Nat.zero_le _⟩ (a9 rfl) (a9 rfl) (fun z hz => ?_)
    obtain ⟨hz,hzq⟩:=hz
    refine Q9 ?_
    refine Q9 ?_
    refine J9 [(0,_),(3,_),(4,_),(5,_),(7,_),(8,_)] [(0,_),(3,_),(4,_),(201,_)] ?_ ⟨rfl,rfl,rfl,rfl,rfl,rfl,trivial⟩ ⟨rfl,rfl,rfl,rfl,trivial⟩
    refine R9 (M9 rfl rfl rfl (M9 rfl rfl rfl (L9 rfl rfl (Pl9 (r:=201) rfl Tryz.runUnderlying36 rfl rfl (fun _ h => rp9 h)) (L9 rfl rfl (Pn9 rfl rfl rfl (run_lss _ _ _ _ _ _)) (N9 (X9 ?_))))))
    refine C9 rfl (fun hc66 => ?_) (fun hc66 => ?_)
    ·
     have hltz : z.1 < z.2.length:=by have:=of_decide_eq_true hc66; omega
     refine K9 (X9 ?_)
     refine Q9 ?_
     refine W_block ?_
     refine J9 [(0,_),(3,_),(4,_),(5,_),(7,_),(8,_),(66,_)] [(0,_),(3,_),(4,_),(201,_)] ?_ ⟨rfl,rfl,rfl,rfl,rfl,rfl,rfl,trivial⟩ ⟨rfl,rfl,rfl,rfl,trivial⟩
     refine W_draw (N:=21) (by kernel_rfl) rfl [(0,_)] ⟨rfl,trivial⟩ ?_
     refine (T9 0 rfl (by kernel_rfl) rfl rfl (Pm9 rfl rfl) (T9 1 rfl (by kernel_rfl) rfl rfl (Pm9 rfl rfl) (T9 2 rfl (by kernel_rfl) rfl rfl (Pm9 rfl rfl) (T9 3 rfl (by kernel_rfl) rfl rfl (Pm9 rfl rfl) (T9 4 rfl (by kernel_rfl) rfl rfl (Pi9 (r:=0) rfl Tryz.runUnderlying22 Tryz.sizeOf97 rfl rfl rfl hF (by omega)) (T9 5 rfl (by kernel_rfl) rfl rfl (Pu_fieldAddrE (off:=2) rfl rfl (by kernel_rfl)) (T9 6 rfl (by kernel_rfl) rfl rfl (Py9 (r:=0) rfl Tryz.isAgg5 rfl rfl hF (fv_by (k:=x.1) hlt.1)) (T9 7 rfl (by kernel_rfl) rfl rfl (Pm9 rfl rfl) (T9 8 rfl (by kernel_rfl) rfl rfl (Pn9 rfl rfl rfl (run_quo _ _ _ _ _ (by omega))) (T9 9 rfl (by kernel_rfl) rfl rfl (Pu_conv rfl rfl (conv_byte _ _ Tryz.runUnderlying3 Tryz.runUnderlying5)) (T9 10 rfl (by kernel_rfl) rfl rfl (Pm9 rfl rfl) (T9 11 rfl (by kernel_rfl) rfl rfl (Pm9 rfl rfl) (T9 12 rfl (by kernel_rfl) rfl rfl (Pi9 (r:=0) rfl Tryz.runUnderlying22 Tryz.sizeOf97 rfl rfl rfl hF (by omega)) (T9 13 rfl (by kernel_rfl) rfl rfl (Pu_fieldAddrE (off:=1) rfl rfl (by kernel_rfl)) (T9 14 rfl (by kernel_rfl) rfl rfl (Py9 (r:=0) rfl Tryz.isAgg3 rfl rfl hF (fv_size (k:=x.1) hlt.1)) (T9 15 rfl (by kernel_rfl) rfl rfl (Pn9 rfl rfl rfl (run_tmod _ _ _ _ _ (by omega))) (T9 16 rfl (by kernel_rfl) rfl rfl (Pu_conv rfl rfl (conv_byte _ _ Tryz.runUnderlying3 Tryz.runUnderlying5)) (T9 17 rfl (by kernel_rfl) rfl rfl (Pn9 rfl rfl rfl (run_mulU8 _ _ _ _ _)) (T9 18 rfl (by kernel_rfl) rfl rfl (Pn9 rfl rfl rfl (run_addU8 _ _ _ _ _)) (Ar9 [19] (by kernel_rfl) (by decide) ?_))))))))))))))))))))
     refine Ac9 rfl rfl rfl (by decide) (Or9 (Pu_idxS1 (r:=201) rfl Tryz.runUnderlying36 Tryz.sizeOf5 rfl rfl rfl (fun _ h => rp9 h) (by omega)) ⟨⟨rfl,trivial⟩,?_⟩) ?_
     ·
      refine (Ar9 [20] (by kernel_rfl) (by decide) ?_)
      refine Ac09 rfl rfl rfl (OpT_storeS1 (r:=201) rfl Tryz.sizeOf5 rfl rfl rfl rfl (by show _ < (bs z.2).length; rw [bs_length]; omega) rfl ?_) ?_
      ·
       refine ⟨⟨rfl,trivial⟩,?_⟩
       refine AH_turn (P':=rowB 5 v62 (z.2.set z.1 ((fs.getD x.1 fv0).2.2.2 + byte ((z.1 : Int) / 64) * byte ((fs.getD x.1 fv0).2.2.1.tmod 3)))) 201 rfl (fun h hp => rowB_mk hp (by rw [List.length_set]) (by rw [← bs_setI]; rfl)) ?_
       refine (Ad9 (by kernel_rfl) (X_block (X9 ?_)))
       refine J9 [(0,_),(3,_),(4,_),(5,_),(7,_),(8,_),(66,_)] [(0,_),(3,_),(4,_),(201,_)] ?_ ⟨rfl,rfl,rfl,rfl,rfl,rfl,rfl,trivial⟩ ⟨rfl,rfl,rfl,rfl,trivial⟩
       refine R9 (M9 rfl rfl rfl (L9 rfl rfl (Pn9 rfl rfl rfl (run_add _ _ _ _ _ (by omega))) (G9 rfl rfl rfl (N9 ?_))))
       exact Xr9 (z.1 + 1,z.2.set z.1 ((fs.getD x.1 fv0).2.2.2 + byte ((z.1 : Int) / 64) * byte ((fs.getD x.1 fv0).2.2.1.tmod 3))) ⟨by dsimp only; rw [List.length_set]; exact hz,by dsimp only; omega⟩ (by dsimp only; omega) (a9 rfl) (a9 rfl)
      exact An9
     exact An9
    ·
     refine W_exit (X_then_exit (X_then_exit (X_block_exit (X9 ?_))))
     refine J9 [(0,_),(3,_),(4,_),(5,_),(7,_),(8,_),(66,_)] [(0,_),(3,_),(4,_),(201,_)] ?_ ⟨rfl,rfl,rfl,rfl,rfl,rfl,rfl,trivial⟩ ⟨rfl,rfl,rfl,rfl,trivial⟩
     refine W_fact (r:=201) rfl (fun h hp => rd_one (rowB_rd h hp)) (fun (ho62 : v62.oneCell' = true) => ?_)
     refine R9 (M9 rfl rfl rfl (M9 rfl rfl rfl (M9 rfl rfl rfl (L9 rfl rfl (Pu_build (V:=.agg (itC (y.2,v62,z.2)).toArray) [(0,1),(1,1)] ([sV [],.slice none 0 0]) rfl rfl (by kernel_rfl) (by kernel_rfl) (.one rfl rfl (by show 0 < 2; decide) rfl (.one rfl ho62 (by show 1 < 2; decide) rfl (.nil _))) rfl) (Lc9 rfl rfl (by decide) (OpT_buildRows (r:=202) [itC (y.2,v62,z.2)] rfl rfl Tryz.runUnderlying24 Tryz.sizeOf38 Tryz.zeroValue38 rfl (by decide) rfl (by decide) (by intro r hr; simp at hr; rw [hr]; rfl) rfl (fun v93 => (Lc9 rfl rfl (by decide) (Oa9 (r:=3) (r2:=202) rfl Tryz.underlying24 TI.hi38 TI.hz38 TI.hs38 TI.hby38 TI.hzs38 (by decide) rfl rfl rfl rfl (fun _ h => rp9 h) (by rw [List.flatten_cons,List.flatten_nil,List.append_nil]; exact itC_one ho62) (by unfold maxLen; omega) (by omega) (fun v94 => ?_))))))))))
     refine Lt9 (P':=rowR itC 2 38 v94 (x.2.2 ++ [(y.2,v62,z.2)])) (r:=3) rfl (fun h hp => row_it hp) ?_
     refine (G9 rfl rfl rfl (N9 (X_block (X9 ?_))))
     refine J9 [(0,_),(3,_),(4,_),(5,_),(7,_),(8,_),(66,_)] [(0,_),(3,_),(4,_),(201,_),(202,_)] ?_ ⟨rfl,rfl,rfl,rfl,rfl,rfl,rfl,trivial⟩ ⟨rfl,rfl,rfl,rfl,rfl,trivial⟩
     refine R9 (M9 rfl rfl rfl (L9 rfl rfl (Pn9 rfl rfl rfl (run_add _ _ _ _ _ (by omega))) (G9 rfl rfl rfl (N9 ?_))))
     refine X_join [4,201] 4 (datI (x.2.2 ++ [(y.2,v62,z.2)])) rfl (by decide) (fun h hs => datI_add hs) ?_
     exact Xr9 (x.1 + 1,v94,x.2.2 ++ [(y.2,v62,z.2)]) ⟨by dsimp only; omega,by dsimp only; omega,by dsimp only; rw [List.length_append,List.length_singleton]; omega,hxs.snoc (by dsimp only; omega) (by dsimp only; omega)⟩ (by dsimp only; omega) (a9 rfl) (a9 rfl)
 ·
  refine W_exit (X_then_exit (X_then_exit (X_block_exit (X9 ?_))))
  refine Q9 ?_
  refine J9 [(0,_),(3,_),(4,_),(16,_)] [(0,_),(3,_),(4,_)] ?_ ⟨rfl,rfl,rfl,rfl,trivial⟩ ⟨rfl,rfl,rfl,trivial⟩
  refine R9 (M9 rfl rfl rfl (G9 rfl rfl rfl (N9 (X9 ?_))))
  refine W_ret ?_
  refine X_join [3,4] 3 (itemsP x.2.1 x.2.2) rfl (by decide) (fun h hs => hs) ?_
  exact Xq9 [3] (Ps:=[_]) (res1 Tryz.results20 rfl) rfl (by decide) ⟨x.2.2,by omega,hxs,rfl⟩
open Go.RowKit
set_option maxRecDepth 8000
theorem row_its {e : TypeId} {v : Value} {n : Nat} {ys : List Value} {xs zs : List F3} {h : Hlt} (hp : rowP e 2 v n (ys ++ recC itC zs) h) (hn : n = xs.length + zs.length) (hy : ys = recC itC xs) : rowR itC 2 e v (xs ++ zs) h:=by
  subst hn; subst hy
  unfold rowR
  rw [List.length_append,recC_append]
  exact hp
theorem it_get {xs : List F3} {k : Nat} (hk : k < xs.length) : xs.getD k it0 ∈ xs:=getD_mem' hk
theorem its_ones {xs : List F3} (h : ∀ x ∈ xs,x.2.1.oneCell' = true) : ∀ u ∈ recC itC xs,u.oneCell' = true:=by
  intro u hu
  unfold recC at hu
  obtain ⟨l,hl,hu⟩:=List.mem_flatten.1 hu
  obtain ⟨x,hx,rfl⟩:=List.mem_map.1 hl
  exact itC_one (h x hx) u hu
theorem itP_rd {v : Value} {xs : List F3} {h : Hlt} (hp : itemsP v xs h) : rdIt v xs h:=starL_le hp (φ:=rdIt v xs) 0 rfl fun h' h1 h2 => rdP_le h2 (rowR_rd _ h1)
theorem itP_dat {v : Value} {xs : List F3} {h : Hlt} (hp : itemsP v xs h) : datI xs h:=fun q hq => starL_le hp (φ:=rdB q.2.1 q.2.2) 1 rfl fun h' h1 h2 => rdP_le h2 (h1 q hq)
theorem datFV_star {Js : List HP} {P : HP} {fs : List FV} (k : Nat) (hk : Js[k]? = some P) (hp : ∀ h,P h → datFV fs h) : ∀ h,starL Js h → datFV fs h:=fun h hs f hf => rs9 k hk (fun h' hh => hp h' hh f hf) h hs
theorem dat_sub {xs ys : List F3} {h : Hlt} (hp : datI xs h) (hs : ∀ q ∈ ys,q ∈ xs) : datI ys h:=fun q hq => hp q (hs q hq)
theorem short_big {xs : List F3} (h : Short3 xs) : ∀ x ∈ xs,x.1.length ≤ 900000 ∧ x.2.2.length ≤ 100000000000:=fun x hx => ⟨by have:=(h x hx).1; omega,by have:=(h x hx).2; omega⟩
theorem good_next {ins xs : List F3} {i : Nat} (hi : i < ins.length) (hx : xs.length < 20) (hm : ∀ q ∈ xs,q ∈ ins) (hs : Short3 ins) (v : Value) (F : HP) (hF : ∀ h,F h → rdIt v (xs ++ [ins.getD i it0]) h) (hD : ∀ h,F h → datI ins h) : CallsS Tryz.prog 21 #[v] F [] (fun r Ps => ∃ (v' : Value) (id : List UInt8) (met : Bool) (l : List TB),r = .tuple #[.agg (refC v' id met).toArray,.int .i64 (buildE (xs ++ [ins.getD i it0]) : Int)] ∧ Ps = [treeP v' l] ∧ id.length = 32 ∧ v'.oneCell' = true ∧ (buildE (xs ++ [ins.getD i it0]) = 0 → (l,met) = putsT ([],false) (dirI 5 (partsN (xs ++ [ins.getD i it0]))).2 ∧ id = (dirI 5 (partsN (xs ++ [ins.getD i it0]))).1) ∧ (buildE (xs ++ [ins.getD i it0]) ≠ 0 → l = [] ∧ met = false)) :=
  refBuild_spec v (xs ++ [ins.getD i it0]) (by rw [List.length_append,List.length_singleton]; omega) (short_big (fun q hq => (List.mem_append.1 hq).elim (fun h => hs q (hm q h)) (fun h => by rw [List.mem_singleton.1 h]; exact hs _ (it_get hi)))) F hF
    (fun h hp => dat_sub (hD h hp) (fun q hq => (List.mem_append.1 hq).elim (hm q) (fun h2 => by rw [List.mem_singleton.1 h2]; exact it_get hi)))
set_option maxHeartbeats 4000000 in
theorem good_spec (v : Value) (fs : List FV) (F : HP) (hF : ∀ h,F h → rdFV v fs h) (hN : ∀ h,F h → datFV fs h) : CallsS Tryz.prog 14 #[v] F [] (fun r Ps => ∃ xs : List F3,buildE xs = 0 ∧ xs.length ≤ 20 ∧ Short3 xs ∧ Ps = [itemsP r xs]):=by
 refine callsS_enter Tryz.func14 rfl Tryz.ntmps14 (by simp) (fun E => ?_)
 refine Q9 ?_
 refine J9 [(0,_)] [(0,_)] ?_ ⟨rfl,trivial⟩ ⟨rfl,trivial⟩
 refine R9 (G9 rfl rfl rfl (N9 (X9 ?_)))
 refine Q9 ?_
 refine J9 [(0,_),(2,_)] [(0,_)] ?_ ⟨rfl,rfl,trivial⟩ ⟨rfl,trivial⟩
 refine R9 (M9 rfl rfl rfl (Lc9 rfl rfl (by decide) (Oc9 200 [0] [] rfl Tryz.call20 rfl rfl rfl (by decide) (by decide) (items_spec v fs _ (rs9 0 rfl hF) (datFV_star 0 rfl hN)) (fun v9 Ps9 hR9 => ?_))))
 obtain ⟨ins,hil,his,rfl⟩:=hR9
 skip
 refine (G9 rfl rfl rfl (N9 (X9 ?_)))
 refine Q9 ?_
 refine J9 [(0,_),(2,_),(3,_)] [(0,_),(200,_)] ?_ ⟨rfl,rfl,rfl,trivial⟩ ⟨rfl,rfl,trivial⟩
 refine W_openItems 200 700 rfl ?_
 refine W_ren 700 5 rfl ?_
 refine W_ren 701 6 rfl ?_
 refine W_nilRow 7 38 2 ?_
 refine Wt9 (P':=rowR itC 2 38 (.slice none 0 0) []) 7 rfl (fun h hp => hp) ?_
 refine W_fact (r:=6) rfl (fun h hp x hx => rd_one (hp x hx)) (fun (hone : ∀ x ∈ ins,x.2.1.oneCell' = true) => ?_)
 refine R9 (G9 rfl rfl rfl (N9 (X9 ?_)))
 refine Q9 ?_
 refine Q9 ?_
 refine J9 [(0,_),(2,_),(3,_),(4,_)] [(0,_),(5,_),(6,_),(7,_)] ?_ ⟨rfl,rfl,rfl,rfl,trivial⟩ ⟨rfl,rfl,rfl,rfl,trivial⟩
 refine R9 (G9 rfl rfl rfl (N9 (X9 ?_)))
 refine W_block ?_
 refine W_loop (α:=Nat × Value × List F3) (fun x => [(3,v9),(4,x.2.1),(5,.int .i64 (x.1 : Int))]) (fun x => [(0,F),(5,rowR itC 2 38 v9 ins),(6,datI ins),(7,rowR itC 2 38 x.2.1 x.2.2)]) (fun x => x.1 ≤ ins.length ∧ x.2.2.length ≤ x.1 ∧ x.2.2.length ≤ 20 ∧ (∀ q ∈ x.2.2,q ∈ ins) ∧ buildE x.2.2 = 0) (fun x => ins.length - x.1) ((0,.slice none 0 0,[])) ⟨Nat.zero_le _,Nat.le_refl _,Nat.zero_le _,fun q hq => absurd hq (by simp),rfl⟩ (a9 rfl) (a9 rfl) (fun x hx => ?_)
 obtain ⟨hx,hxl,hx20,hxm,hxb⟩:=hx
 refine Q9 ?_
 refine Q9 ?_
 refine J9 [(3,_),(4,_),(5,_)] [(0,_),(5,_),(6,_),(7,_)] ?_ ⟨rfl,rfl,rfl,trivial⟩ ⟨rfl,rfl,rfl,rfl,trivial⟩
 refine R9 (M9 rfl rfl rfl (M9 rfl rfl rfl (L9 rfl rfl (Pl9 (r:=5) rfl Tryz.runUnderlying24 rfl rfl rowR_rd) (L9 rfl rfl (Pn9 rfl rfl rfl (run_lss _ _ _ _ _ _)) (M9 rfl rfl rfl (Lg9 rfl rfl rfl rfl (by decide) (fun hb => (Pm9 rfl rfl)) (Lg9 rfl rfl rfl rfl (by decide) (fun hb => (Pl9 (r:=7) rfl Tryz.runUnderlying24 (ev_gv rfl hb) rfl rowR_rd)) (Lg9 rfl rfl rfl rfl (by decide) (fun hb => (Pn9 rfl (ev_gv rfl hb) rfl (run_lss _ _ _ _ _ _))) (L9 rfl rfl (Pu_and rfl rfl rfl) (N9 (X9 ?_)))))))))))
 refine C9 rfl (fun hc18 => ?_) (fun hc18 => ?_)
 ·
  have hlt : x.1 < ins.length ∧ x.2.2.length < 20:=by simp only [Bool.and_eq_true,decide_eq_true_eq] at hc18; omega
  have hq1:=hone _ (it_get hlt.1)
  have hones:=its_ones (fun q hq => hone q (hxm q hq))
  refine K9 (X9 ?_)
  refine Q9 ?_
  refine W_block ?_
  refine W_cut (α:=Unit) (fun _z => [(3,v9),(4,x.2.1),(5,.int .i64 (x.1 : Int)),(7,.int .i64 ((buildE (x.2.2 ++ [(ins.getD x.1 it0)]) : Nat) : Int))]) (fun _z => [(0,F),(5,rowR itC 2 38 v9 ins),(6,datI ins),(7,rowR itC 2 38 x.2.1 x.2.2)]) (fun _z => True) ?_ (fun z hz => ?_)
  ·
   refine J9 [(3,_),(4,_),(5,_),(18,_)] [(0,_),(5,_),(6,_),(7,_)] ?_ ⟨rfl,rfl,rfl,rfl,trivial⟩ ⟨rfl,rfl,rfl,rfl,trivial⟩
   refine W_draw (N:=16) (by kernel_rfl) rfl [(0,_),(5,_)] ⟨rfl,rfl,trivial⟩ ?_
   refine (T9 1 rfl (by kernel_rfl) rfl rfl (Pm9 rfl rfl) (T9 3 rfl (by kernel_rfl) rfl rfl (Pm9 rfl rfl) (T9 4 rfl (by kernel_rfl) rfl rfl (Pm9 rfl rfl) (T9 5 rfl (by kernel_rfl) rfl rfl (Pi9 (r:=5) rfl Tryz.runUnderlying24 Tryz.sizeOf38 rfl rfl rfl rowR_rd (by omega)) (T9 6 rfl (by kernel_rfl) rfl rfl (Pz9 (r:=5) rfl Tryz.isAgg38 Tryz.sizeOf38 rfl rfl rowR_rd rfl (by decide) (its_all hlt.1)) (Ar9 [0,7,13] (by kernel_rfl) (by decide) ?_))))))
   refine Ac9 rfl rfl rfl (by decide) (OpT_buildRows (r:=151) [] rfl rfl Tryz.runUnderlying24 Tryz.sizeOf38 Tryz.zeroValue38 rfl (by decide) rfl (by decide) (by intro r hr; simp at hr) rfl (fun v22 => ⟨⟨rfl,rfl,trivial⟩,?_⟩)) ?_
   ·
    refine AH_turn (P':=rowR itC 2 38 v22 []) 151 rfl (fun h hp => hp) ?_
    refine (Ar9 [2,7,13] (by kernel_rfl) (by decide) ?_)
    refine Ac9 rfl rfl rfl (by decide) (Oa9 (r:=151) (r2:=7) rfl Tryz.underlying24 TI.hi38 TI.hz38 TI.hs38 TI.hby38 TI.hzs38 (by decide) rfl rfl rfl rfl rowR_rd hones (by unfold maxLen; rw [List.length_nil]; omega) (by rw [List.length_nil]; omega) (fun v24 => ?_)) ?_
    ·
     refine ⟨⟨rfl,rfl,trivial⟩,?_⟩
     refine AH_turn (P':=rowR itC 2 38 v24 ([] ++ x.2.2)) 151 rfl (fun h hp => row_its hp (by rw [List.length_nil]) rfl) ?_
     refine (Ar9 [7,13] (by kernel_rfl) (by decide) ?_)
     refine Ac9 rfl rfl rfl (by decide) (OpT_buildRows (r:=152) [itC (ins.getD x.1 it0)] rfl rfl Tryz.runUnderlying24 Tryz.sizeOf38 Tryz.zeroValue38 rfl (by decide) rfl (by decide) (by intro r hr; simp at hr; rw [hr]; rfl) rfl (fun v29 => ⟨⟨rfl,rfl,trivial⟩,?_⟩)) ?_
     ·
      refine (Ar9 [8,13] (by kernel_rfl) (by decide) ?_)
      refine Ac9 rfl rfl rfl (by decide) (Oa9 (r:=151) (r2:=152) rfl Tryz.underlying24 TI.hi38 TI.hz38 TI.hs38 TI.hby38 TI.hzs38 (by decide) rfl rfl rfl rfl (fun _ h => rp9 h) (by rw [List.flatten_cons,List.flatten_nil,List.append_nil]; exact itC_one hq1) (by unfold maxLen; rw [List.nil_append]; omega) (by rw [List.nil_append]; omega) (fun v30 => ?_)) ?_
      ·
       refine ⟨⟨rfl,rfl,trivial⟩,?_⟩
       refine AH_turn (P':=rowR itC 2 38 v30 (x.2.2 ++ [(ins.getD x.1 it0)])) 151 rfl (fun h hp => row_it hp) ?_
       refine (Ar9 [9,13] (by kernel_rfl) (by decide) ?_)
       refine Ac9 rfl rfl rfl (by decide) (Oc9 200 [0,5,6,7,151,152] [] rfl Tryz.call21 rfl rfl rfl (by decide) (by decide) (good_next hlt.1 hlt.2 hxm his v30 _ (rs9 4 rfl rowR_rd) (datI_star 2 rfl (fun _ h => h))) (fun v31 Ps31 hR31 => ?_)) ?_
       ·
        obtain ⟨vt,idt,mt,lt,rfl,rfl,hit,hvt,_,_⟩:=hR31
        refine ⟨⟨rfl,rfl,trivial⟩,?_⟩
        refine (T9 10 rfl (by kernel_rfl) rfl rfl (Pm9 rfl rfl) (T9 11 rfl (by kernel_rfl) rfl rfl (Pe9 rfl rfl rfl) (T9 12 rfl (by kernel_rfl) rfl rfl (Pe9 rfl rfl rfl) (Ar9 [13] (by kernel_rfl) (by decide) ?_))))
        refine Ac9 rfl rfl rfl (by decide) (OpT_alloc (r:=201) (cs:=(refC (.slice none 0 0) zeroId false)) rfl (zero_run (by kernel_rfl : (Tryz.prog.info? 50).bind (·.zero) = some (.agg (refC (.slice none 0 0) zeroId false).toArray))) rfl (fun g201 => ⟨⟨rfl,rfl,trivial⟩,?_⟩)) ?_
        ·
         refine (Ar9 [14] (by kernel_rfl) (by decide) ?_)
         refine Ac09 rfl rfl rfl (OpT_storeAll (r:=201) rfl Tryz.sizeOf50 rfl rfl rfl (refC_len zeroId_length) (refC_len hit) (refC_one hvt) ?_) ?_
         ·
          refine ⟨⟨rfl,rfl,trivial⟩,?_⟩
          refine (T9 15 rfl (by kernel_rfl) rfl rfl (Pg9 rfl rfl) (Ad9 (by kernel_rfl) ?_))
          exact X_cut () trivial (a9 rfl) (a9 rfl)
         exact An9
        exact An9
       refine Ac9 rfl rfl rfl (by decide) (OpT_alloc (r:=153) (cs:=(refC (.slice none 0 0) zeroId false)) rfl (zero_run (by kernel_rfl : (Tryz.prog.info? 50).bind (·.zero) = some (.agg (refC (.slice none 0 0) zeroId false).toArray))) rfl (fun g153 => ⟨⟨rfl,rfl,trivial⟩,?_⟩)) ?_
       ·
        refine (Ar9 [9] (by kernel_rfl) (by decide) ?_)
        refine Ac9 rfl rfl rfl (by decide) (Oc9 200 [0,5,6,7,151,152,153] [] rfl Tryz.call21 rfl rfl rfl (by decide) (by decide) (good_next hlt.1 hlt.2 hxm his v30 _ (rs9 4 rfl rowR_rd) (datI_star 2 rfl (fun _ h => h))) (fun v31 Ps31 hR31 => ?_)) ?_
        ·
         obtain ⟨vt,idt,mt,lt,rfl,rfl,hit,hvt,_,_⟩:=hR31
         refine ⟨⟨rfl,rfl,trivial⟩,?_⟩
         refine (T9 10 rfl (by kernel_rfl) rfl rfl (Pm9 rfl rfl) (T9 11 rfl (by kernel_rfl) rfl rfl (Pe9 rfl rfl rfl) (T9 12 rfl (by kernel_rfl) rfl rfl (Pe9 rfl rfl rfl) (Ar9 [14] (by kernel_rfl) (by decide) ?_))))
         refine Ac09 rfl rfl rfl (OpT_storeAll (r:=153) rfl Tryz.sizeOf50 rfl rfl rfl (refC_len zeroId_length) (refC_len hit) (refC_one hvt) ?_) ?_
         ·
          refine ⟨⟨rfl,rfl,trivial⟩,?_⟩
          refine (T9 15 rfl (by kernel_rfl) rfl rfl (Pg9 rfl rfl) (Ad9 (by kernel_rfl) ?_))
          exact X_cut () trivial (a9 rfl) (a9 rfl)
         exact An9
        exact An9
       exact An9
      refine Ac9 rfl rfl rfl (by decide) (OpT_alloc (r:=153) (cs:=(refC (.slice none 0 0) zeroId false)) rfl (zero_run (by kernel_rfl : (Tryz.prog.info? 50).bind (·.zero) = some (.agg (refC (.slice none 0 0) zeroId false).toArray))) rfl (fun g153 => ⟨⟨rfl,rfl,trivial⟩,?_⟩)) ?_
      ·
       refine (Ar9 [8] (by kernel_rfl) (by decide) ?_)
       refine Ac9 rfl rfl rfl (by decide) (Oa9 (r:=151) (r2:=152) rfl Tryz.underlying24 TI.hi38 TI.hz38 TI.hs38 TI.hby38 TI.hzs38 (by decide) rfl rfl rfl rfl (fun _ h => rp9 h) (by rw [List.flatten_cons,List.flatten_nil,List.append_nil]; exact itC_one hq1) (by unfold maxLen; rw [List.nil_append]; omega) (by rw [List.nil_append]; omega) (fun v30 => ?_)) ?_
       ·
        refine ⟨⟨rfl,rfl,trivial⟩,?_⟩
        refine AH_turn (P':=rowR itC 2 38 v30 (x.2.2 ++ [(ins.getD x.1 it0)])) 151 rfl (fun h hp => row_it hp) ?_
        refine (Ar9 [9] (by kernel_rfl) (by decide) ?_)
        refine Ac9 rfl rfl rfl (by decide) (Oc9 200 [0,5,6,7,151,152,153] [] rfl Tryz.call21 rfl rfl rfl (by decide) (by decide) (good_next hlt.1 hlt.2 hxm his v30 _ (rs9 4 rfl rowR_rd) (datI_star 2 rfl (fun _ h => h))) (fun v31 Ps31 hR31 => ?_)) ?_
        ·
         obtain ⟨vt,idt,mt,lt,rfl,rfl,hit,hvt,_,_⟩:=hR31
         refine ⟨⟨rfl,rfl,trivial⟩,?_⟩
         refine (T9 10 rfl (by kernel_rfl) rfl rfl (Pm9 rfl rfl) (T9 11 rfl (by kernel_rfl) rfl rfl (Pe9 rfl rfl rfl) (T9 12 rfl (by kernel_rfl) rfl rfl (Pe9 rfl rfl rfl) (Ar9 [14] (by kernel_rfl) (by decide) ?_))))
         refine Ac09 rfl rfl rfl (OpT_storeAll (r:=153) rfl Tryz.sizeOf50 rfl rfl rfl (refC_len zeroId_length) (refC_len hit) (refC_one hvt) ?_) ?_
         ·
          refine ⟨⟨rfl,rfl,trivial⟩,?_⟩
          refine (T9 15 rfl (by kernel_rfl) rfl rfl (Pg9 rfl rfl) (Ad9 (by kernel_rfl) ?_))
          exact X_cut () trivial (a9 rfl) (a9 rfl)
         exact An9
        exact An9
       exact An9
      exact An9
     refine Ac9 rfl rfl rfl (by decide) (OpT_alloc (r:=152) (cs:=(refC (.slice none 0 0) zeroId false)) rfl (zero_run (by kernel_rfl : (Tryz.prog.info? 50).bind (·.zero) = some (.agg (refC (.slice none 0 0) zeroId false).toArray))) rfl (fun g152 => ⟨⟨rfl,rfl,trivial⟩,?_⟩)) ?_
     ·
      refine (Ar9 [7] (by kernel_rfl) (by decide) ?_)
      refine Ac9 rfl rfl rfl (by decide) (OpT_buildRows (r:=153) [itC (ins.getD x.1 it0)] rfl rfl Tryz.runUnderlying24 Tryz.sizeOf38 Tryz.zeroValue38 rfl (by decide) rfl (by decide) (by intro r hr; simp at hr; rw [hr]; rfl) rfl (fun v29 => ⟨⟨rfl,rfl,trivial⟩,?_⟩)) ?_
      ·
       refine (Ar9 [8] (by kernel_rfl) (by decide) ?_)
       refine Ac9 rfl rfl rfl (by decide) (Oa9 (r:=151) (r2:=153) rfl Tryz.underlying24 TI.hi38 TI.hz38 TI.hs38 TI.hby38 TI.hzs38 (by decide) rfl rfl rfl rfl (fun _ h => rp9 h) (by rw [List.flatten_cons,List.flatten_nil,List.append_nil]; exact itC_one hq1) (by unfold maxLen; rw [List.nil_append]; omega) (by rw [List.nil_append]; omega) (fun v30 => ?_)) ?_
       ·
        refine ⟨⟨rfl,rfl,trivial⟩,?_⟩
        refine AH_turn (P':=rowR itC 2 38 v30 (x.2.2 ++ [(ins.getD x.1 it0)])) 151 rfl (fun h hp => row_it hp) ?_
        refine (Ar9 [9] (by kernel_rfl) (by decide) ?_)
        refine Ac9 rfl rfl rfl (by decide) (Oc9 200 [0,5,6,7,151,152,153] [] rfl Tryz.call21 rfl rfl rfl (by decide) (by decide) (good_next hlt.1 hlt.2 hxm his v30 _ (rs9 4 rfl rowR_rd) (datI_star 2 rfl (fun _ h => h))) (fun v31 Ps31 hR31 => ?_)) ?_
        ·
         obtain ⟨vt,idt,mt,lt,rfl,rfl,hit,hvt,_,_⟩:=hR31
         refine ⟨⟨rfl,rfl,trivial⟩,?_⟩
         refine (T9 10 rfl (by kernel_rfl) rfl rfl (Pm9 rfl rfl) (T9 11 rfl (by kernel_rfl) rfl rfl (Pe9 rfl rfl rfl) (T9 12 rfl (by kernel_rfl) rfl rfl (Pe9 rfl rfl rfl) (Ar9 [14] (by kernel_rfl) (by decide) ?_))))
         refine Ac09 rfl rfl rfl (OpT_storeAll (r:=152) rfl Tryz.sizeOf50 rfl rfl rfl (refC_len zeroId_length) (refC_len hit) (refC_one hvt) ?_) ?_
         ·
          refine ⟨⟨rfl,rfl,trivial⟩,?_⟩
          refine (T9 15 rfl (by kernel_rfl) rfl rfl (Pg9 rfl rfl) (Ad9 (by kernel_rfl) ?_))
          exact X_cut () trivial (a9 rfl) (a9 rfl)
         exact An9
        exact An9
       exact An9
      exact An9
     exact An9
    refine Ac9 rfl rfl rfl (by decide) (OpT_buildRows (r:=152) [itC (ins.getD x.1 it0)] rfl rfl Tryz.runUnderlying24 Tryz.sizeOf38 Tryz.zeroValue38 rfl (by decide) rfl (by decide) (by intro r hr; simp at hr; rw [hr]; rfl) rfl (fun v29 => ⟨⟨rfl,rfl,trivial⟩,?_⟩)) ?_
    ·
     refine (Ar9 [2,13] (by kernel_rfl) (by decide) ?_)
     refine Ac9 rfl rfl rfl (by decide) (Oa9 (r:=151) (r2:=7) rfl Tryz.underlying24 TI.hi38 TI.hz38 TI.hs38 TI.hby38 TI.hzs38 (by decide) rfl rfl rfl rfl rowR_rd hones (by unfold maxLen; rw [List.length_nil]; omega) (by rw [List.length_nil]; omega) (fun v24 => ?_)) ?_
     ·
      refine ⟨⟨rfl,rfl,trivial⟩,?_⟩
      refine AH_turn (P':=rowR itC 2 38 v24 ([] ++ x.2.2)) 151 rfl (fun h hp => row_its hp (by rw [List.length_nil]) rfl) ?_
      refine (Ar9 [8,13] (by kernel_rfl) (by decide) ?_)
      refine Ac9 rfl rfl rfl (by decide) (Oa9 (r:=151) (r2:=152) rfl Tryz.underlying24 TI.hi38 TI.hz38 TI.hs38 TI.hby38 TI.hzs38 (by decide) rfl rfl rfl rfl (fun _ h => rp9 h) (by rw [List.flatten_cons,List.flatten_nil,List.append_nil]; exact itC_one hq1) (by unfold maxLen; rw [List.nil_append]; omega) (by rw [List.nil_append]; omega) (fun v30 => ?_)) ?_
      ·
       refine ⟨⟨rfl,rfl,trivial⟩,?_⟩
       refine AH_turn (P':=rowR itC 2 38 v30 (x.2.2 ++ [(ins.getD x.1 it0)])) 151 rfl (fun h hp => row_it hp) ?_
       refine (Ar9 [9,13] (by kernel_rfl) (by decide) ?_)
       refine Ac9 rfl rfl rfl (by decide) (Oc9 200 [0,5,6,7,151,152] [] rfl Tryz.call21 rfl rfl rfl (by decide) (by decide) (good_next hlt.1 hlt.2 hxm his v30 _ (rs9 4 rfl rowR_rd) (datI_star 2 rfl (fun _ h => h))) (fun v31 Ps31 hR31 => ?_)) ?_
       ·
        obtain ⟨vt,idt,mt,lt,rfl,rfl,hit,hvt,_,_⟩:=hR31
        refine ⟨⟨rfl,rfl,trivial⟩,?_⟩
        refine (T9 10 rfl (by kernel_rfl) rfl rfl (Pm9 rfl rfl) (T9 11 rfl (by kernel_rfl) rfl rfl (Pe9 rfl rfl rfl) (T9 12 rfl (by kernel_rfl) rfl rfl (Pe9 rfl rfl rfl) (Ar9 [13] (by kernel_rfl) (by decide) ?_))))
        refine Ac9 rfl rfl rfl (by decide) (OpT_alloc (r:=201) (cs:=(refC (.slice none 0 0) zeroId false)) rfl (zero_run (by kernel_rfl : (Tryz.prog.info? 50).bind (·.zero) = some (.agg (refC (.slice none 0 0) zeroId false).toArray))) rfl (fun g201 => ⟨⟨rfl,rfl,trivial⟩,?_⟩)) ?_
        ·
         refine (Ar9 [14] (by kernel_rfl) (by decide) ?_)
         refine Ac09 rfl rfl rfl (OpT_storeAll (r:=201) rfl Tryz.sizeOf50 rfl rfl rfl (refC_len zeroId_length) (refC_len hit) (refC_one hvt) ?_) ?_
         ·
          refine ⟨⟨rfl,rfl,trivial⟩,?_⟩
          refine (T9 15 rfl (by kernel_rfl) rfl rfl (Pg9 rfl rfl) (Ad9 (by kernel_rfl) ?_))
          exact X_cut () trivial (a9 rfl) (a9 rfl)
         exact An9
        exact An9
       refine Ac9 rfl rfl rfl (by decide) (OpT_alloc (r:=153) (cs:=(refC (.slice none 0 0) zeroId false)) rfl (zero_run (by kernel_rfl : (Tryz.prog.info? 50).bind (·.zero) = some (.agg (refC (.slice none 0 0) zeroId false).toArray))) rfl (fun g153 => ⟨⟨rfl,rfl,trivial⟩,?_⟩)) ?_
       ·
        refine (Ar9 [9] (by kernel_rfl) (by decide) ?_)
        refine Ac9 rfl rfl rfl (by decide) (Oc9 200 [0,5,6,7,151,152,153] [] rfl Tryz.call21 rfl rfl rfl (by decide) (by decide) (good_next hlt.1 hlt.2 hxm his v30 _ (rs9 4 rfl rowR_rd) (datI_star 2 rfl (fun _ h => h))) (fun v31 Ps31 hR31 => ?_)) ?_
        ·
         obtain ⟨vt,idt,mt,lt,rfl,rfl,hit,hvt,_,_⟩:=hR31
         refine ⟨⟨rfl,rfl,trivial⟩,?_⟩
         refine (T9 10 rfl (by kernel_rfl) rfl rfl (Pm9 rfl rfl) (T9 11 rfl (by kernel_rfl) rfl rfl (Pe9 rfl rfl rfl) (T9 12 rfl (by kernel_rfl) rfl rfl (Pe9 rfl rfl rfl) (Ar9 [14] (by kernel_rfl) (by decide) ?_))))
         refine Ac09 rfl rfl rfl (OpT_storeAll (r:=153) rfl Tryz.sizeOf50 rfl rfl rfl (refC_len zeroId_length) (refC_len hit) (refC_one hvt) ?_) ?_
         ·
          refine ⟨⟨rfl,rfl,trivial⟩,?_⟩
          refine (T9 15 rfl (by kernel_rfl) rfl rfl (Pg9 rfl rfl) (Ad9 (by kernel_rfl) ?_))
          exact X_cut () trivial (a9 rfl) (a9 rfl)
         exact An9
        exact An9
       exact An9
      refine Ac9 rfl rfl rfl (by decide) (OpT_alloc (r:=153) (cs:=(refC (.slice none 0 0) zeroId false)) rfl (zero_run (by kernel_rfl : (Tryz.prog.info? 50).bind (·.zero) = some (.agg (refC (.slice none 0 0) zeroId false).toArray))) rfl (fun g153 => ⟨⟨rfl,rfl,trivial⟩,?_⟩)) ?_
      ·
       refine (Ar9 [8] (by kernel_rfl) (by decide) ?_)
       refine Ac9 rfl rfl rfl (by decide) (Oa9 (r:=151) (r2:=152) rfl Tryz.underlying24 TI.hi38 TI.hz38 TI.hs38 TI.hby38 TI.hzs38 (by decide) rfl rfl rfl rfl (fun _ h => rp9 h) (by rw [List.flatten_cons,List.flatten_nil,List.append_nil]; exact itC_one hq1) (by unfold maxLen; rw [List.nil_append]; omega) (by rw [List.nil_append]; omega) (fun v30 => ?_)) ?_
       ·
        refine ⟨⟨rfl,rfl,trivial⟩,?_⟩
        refine AH_turn (P':=rowR itC 2 38 v30 (x.2.2 ++ [(ins.getD x.1 it0)])) 151 rfl (fun h hp => row_it hp) ?_
        refine (Ar9 [9] (by kernel_rfl) (by decide) ?_)
        refine Ac9 rfl rfl rfl (by decide) (Oc9 200 [0,5,6,7,151,152,153] [] rfl Tryz.call21 rfl rfl rfl (by decide) (by decide) (good_next hlt.1 hlt.2 hxm his v30 _ (rs9 4 rfl rowR_rd) (datI_star 2 rfl (fun _ h => h))) (fun v31 Ps31 hR31 => ?_)) ?_
        ·
         obtain ⟨vt,idt,mt,lt,rfl,rfl,hit,hvt,_,_⟩:=hR31
         refine ⟨⟨rfl,rfl,trivial⟩,?_⟩
         refine (T9 10 rfl (by kernel_rfl) rfl rfl (Pm9 rfl rfl) (T9 11 rfl (by kernel_rfl) rfl rfl (Pe9 rfl rfl rfl) (T9 12 rfl (by kernel_rfl) rfl rfl (Pe9 rfl rfl rfl) (Ar9 [14] (by kernel_rfl) (by decide) ?_))))
         refine Ac09 rfl rfl rfl (OpT_storeAll (r:=153) rfl Tryz.sizeOf50 rfl rfl rfl (refC_len zeroId_length) (refC_len hit) (refC_one hvt) ?_) ?_
         ·
          refine ⟨⟨rfl,rfl,trivial⟩,?_⟩
          refine (T9 15 rfl (by kernel_rfl) rfl rfl (Pg9 rfl rfl) (Ad9 (by kernel_rfl) ?_))
          exact X_cut () trivial (a9 rfl) (a9 rfl)
         exact An9
        exact An9
       exact An9
      exact An9
     refine Ac9 rfl rfl rfl (by decide) (OpT_alloc (r:=153) (cs:=(refC (.slice none 0 0) zeroId false)) rfl (zero_run (by kernel_rfl : (Tryz.prog.info? 50).bind (·.zero) = some (.agg (refC (.slice none 0 0) zeroId false).toArray))) rfl (fun g153 => ⟨⟨rfl,rfl,trivial⟩,?_⟩)) ?_
     ·
      refine (Ar9 [2] (by kernel_rfl) (by decide) ?_)
      refine Ac9 rfl rfl rfl (by decide) (Oa9 (r:=151) (r2:=7) rfl Tryz.underlying24 TI.hi38 TI.hz38 TI.hs38 TI.hby38 TI.hzs38 (by decide) rfl rfl rfl rfl rowR_rd hones (by unfold maxLen; rw [List.length_nil]; omega) (by rw [List.length_nil]; omega) (fun v24 => ?_)) ?_
      ·
       refine ⟨⟨rfl,rfl,trivial⟩,?_⟩
       refine AH_turn (P':=rowR itC 2 38 v24 ([] ++ x.2.2)) 151 rfl (fun h hp => row_its hp (by rw [List.length_nil]) rfl) ?_
       refine (Ar9 [8] (by kernel_rfl) (by decide) ?_)
       refine Ac9 rfl rfl rfl (by decide) (Oa9 (r:=151) (r2:=152) rfl Tryz.underlying24 TI.hi38 TI.hz38 TI.hs38 TI.hby38 TI.hzs38 (by decide) rfl rfl rfl rfl (fun _ h => rp9 h) (by rw [List.flatten_cons,List.flatten_nil,List.append_nil]; exact itC_one hq1) (by unfold maxLen; rw [List.nil_append]; omega) (by rw [List.nil_append]; omega) (fun v30 => ?_)) ?_
       ·
        refine ⟨⟨rfl,rfl,trivial⟩,?_⟩
        refine AH_turn (P':=rowR itC 2 38 v30 (x.2.2 ++ [(ins.getD x.1 it0)])) 151 rfl (fun h hp => row_it hp) ?_
        refine (Ar9 [9] (by kernel_rfl) (by decide) ?_)
        refine Ac9 rfl rfl rfl (by decide) (Oc9 200 [0,5,6,7,151,152,153] [] rfl Tryz.call21 rfl rfl rfl (by decide) (by decide) (good_next hlt.1 hlt.2 hxm his v30 _ (rs9 4 rfl rowR_rd) (datI_star 2 rfl (fun _ h => h))) (fun v31 Ps31 hR31 => ?_)) ?_
        ·
         obtain ⟨vt,idt,mt,lt,rfl,rfl,hit,hvt,_,_⟩:=hR31
         refine ⟨⟨rfl,rfl,trivial⟩,?_⟩
         refine (T9 10 rfl (by kernel_rfl) rfl rfl (Pm9 rfl rfl) (T9 11 rfl (by kernel_rfl) rfl rfl (Pe9 rfl rfl rfl) (T9 12 rfl (by kernel_rfl) rfl rfl (Pe9 rfl rfl rfl) (Ar9 [14] (by kernel_rfl) (by decide) ?_))))
         refine Ac09 rfl rfl rfl (OpT_storeAll (r:=153) rfl Tryz.sizeOf50 rfl rfl rfl (refC_len zeroId_length) (refC_len hit) (refC_one hvt) ?_) ?_
         ·
          refine ⟨⟨rfl,rfl,trivial⟩,?_⟩
          refine (T9 15 rfl (by kernel_rfl) rfl rfl (Pg9 rfl rfl) (Ad9 (by kernel_rfl) ?_))
          exact X_cut () trivial (a9 rfl) (a9 rfl)
         exact An9
        exact An9
       exact An9
      exact An9
     exact An9
    refine Ac9 rfl rfl rfl (by decide) (OpT_alloc (r:=152) (cs:=(refC (.slice none 0 0) zeroId false)) rfl (zero_run (by kernel_rfl : (Tryz.prog.info? 50).bind (·.zero) = some (.agg (refC (.slice none 0 0) zeroId false).toArray))) rfl (fun g152 => ⟨⟨rfl,rfl,trivial⟩,?_⟩)) ?_
    ·
     refine (Ar9 [2,7] (by kernel_rfl) (by decide) ?_)
     refine Ac9 rfl rfl rfl (by decide) (Oa9 (r:=151) (r2:=7) rfl Tryz.underlying24 TI.hi38 TI.hz38 TI.hs38 TI.hby38 TI.hzs38 (by decide) rfl rfl rfl rfl rowR_rd hones (by unfold maxLen; rw [List.length_nil]; omega) (by rw [List.length_nil]; omega) (fun v24 => ?_)) ?_
     ·
      refine ⟨⟨rfl,rfl,trivial⟩,?_⟩
      refine AH_turn (P':=rowR itC 2 38 v24 ([] ++ x.2.2)) 151 rfl (fun h hp => row_its hp (by rw [List.length_nil]) rfl) ?_
      refine (Ar9 [7] (by kernel_rfl) (by decide) ?_)
      refine Ac9 rfl rfl rfl (by decide) (OpT_buildRows (r:=153) [itC (ins.getD x.1 it0)] rfl rfl Tryz.runUnderlying24 Tryz.sizeOf38 Tryz.zeroValue38 rfl (by decide) rfl (by decide) (by intro r hr; simp at hr; rw [hr]; rfl) rfl (fun v29 => ⟨⟨rfl,rfl,trivial⟩,?_⟩)) ?_
      ·
       refine (Ar9 [8] (by kernel_rfl) (by decide) ?_)
       refine Ac9 rfl rfl rfl (by decide) (Oa9 (r:=151) (r2:=153) rfl Tryz.underlying24 TI.hi38 TI.hz38 TI.hs38 TI.hby38 TI.hzs38 (by decide) rfl rfl rfl rfl (fun _ h => rp9 h) (by rw [List.flatten_cons,List.flatten_nil,List.append_nil]; exact itC_one hq1) (by unfold maxLen; rw [List.nil_append]; omega) (by rw [List.nil_append]; omega) (fun v30 => ?_)) ?_
       ·
        refine ⟨⟨rfl,rfl,trivial⟩,?_⟩
        refine AH_turn (P':=rowR itC 2 38 v30 (x.2.2 ++ [(ins.getD x.1 it0)])) 151 rfl (fun h hp => row_it hp) ?_
        refine (Ar9 [9] (by kernel_rfl) (by decide) ?_)
        refine Ac9 rfl rfl rfl (by decide) (Oc9 200 [0,5,6,7,151,152,153] [] rfl Tryz.call21 rfl rfl rfl (by decide) (by decide) (good_next hlt.1 hlt.2 hxm his v30 _ (rs9 4 rfl rowR_rd) (datI_star 2 rfl (fun _ h => h))) (fun v31 Ps31 hR31 => ?_)) ?_
        ·
         obtain ⟨vt,idt,mt,lt,rfl,rfl,hit,hvt,_,_⟩:=hR31
         refine ⟨⟨rfl,rfl,trivial⟩,?_⟩
         refine (T9 10 rfl (by kernel_rfl) rfl rfl (Pm9 rfl rfl) (T9 11 rfl (by kernel_rfl) rfl rfl (Pe9 rfl rfl rfl) (T9 12 rfl (by kernel_rfl) rfl rfl (Pe9 rfl rfl rfl) (Ar9 [14] (by kernel_rfl) (by decide) ?_))))
         refine Ac09 rfl rfl rfl (OpT_storeAll (r:=152) rfl Tryz.sizeOf50 rfl rfl rfl (refC_len zeroId_length) (refC_len hit) (refC_one hvt) ?_) ?_
         ·
          refine ⟨⟨rfl,rfl,trivial⟩,?_⟩
          refine (T9 15 rfl (by kernel_rfl) rfl rfl (Pg9 rfl rfl) (Ad9 (by kernel_rfl) ?_))
          exact X_cut () trivial (a9 rfl) (a9 rfl)
         exact An9
        exact An9
       exact An9
      exact An9
     refine Ac9 rfl rfl rfl (by decide) (OpT_buildRows (r:=153) [itC (ins.getD x.1 it0)] rfl rfl Tryz.runUnderlying24 Tryz.sizeOf38 Tryz.zeroValue38 rfl (by decide) rfl (by decide) (by intro r hr; simp at hr; rw [hr]; rfl) rfl (fun v29 => ⟨⟨rfl,rfl,trivial⟩,?_⟩)) ?_
     ·
      refine (Ar9 [2] (by kernel_rfl) (by decide) ?_)
      refine Ac9 rfl rfl rfl (by decide) (Oa9 (r:=151) (r2:=7) rfl Tryz.underlying24 TI.hi38 TI.hz38 TI.hs38 TI.hby38 TI.hzs38 (by decide) rfl rfl rfl rfl rowR_rd hones (by unfold maxLen; rw [List.length_nil]; omega) (by rw [List.length_nil]; omega) (fun v24 => ?_)) ?_
      ·
       refine ⟨⟨rfl,rfl,trivial⟩,?_⟩
       refine AH_turn (P':=rowR itC 2 38 v24 ([] ++ x.2.2)) 151 rfl (fun h hp => row_its hp (by rw [List.length_nil]) rfl) ?_
       refine (Ar9 [8] (by kernel_rfl) (by decide) ?_)
       refine Ac9 rfl rfl rfl (by decide) (Oa9 (r:=151) (r2:=153) rfl Tryz.underlying24 TI.hi38 TI.hz38 TI.hs38 TI.hby38 TI.hzs38 (by decide) rfl rfl rfl rfl (fun _ h => rp9 h) (by rw [List.flatten_cons,List.flatten_nil,List.append_nil]; exact itC_one hq1) (by unfold maxLen; rw [List.nil_append]; omega) (by rw [List.nil_append]; omega) (fun v30 => ?_)) ?_
       ·
        refine ⟨⟨rfl,rfl,trivial⟩,?_⟩
        refine AH_turn (P':=rowR itC 2 38 v30 (x.2.2 ++ [(ins.getD x.1 it0)])) 151 rfl (fun h hp => row_it hp) ?_
        refine (Ar9 [9] (by kernel_rfl) (by decide) ?_)
        refine Ac9 rfl rfl rfl (by decide) (Oc9 200 [0,5,6,7,151,152,153] [] rfl Tryz.call21 rfl rfl rfl (by decide) (by decide) (good_next hlt.1 hlt.2 hxm his v30 _ (rs9 4 rfl rowR_rd) (datI_star 2 rfl (fun _ h => h))) (fun v31 Ps31 hR31 => ?_)) ?_
        ·
         obtain ⟨vt,idt,mt,lt,rfl,rfl,hit,hvt,_,_⟩:=hR31
         refine ⟨⟨rfl,rfl,trivial⟩,?_⟩
         refine (T9 10 rfl (by kernel_rfl) rfl rfl (Pm9 rfl rfl) (T9 11 rfl (by kernel_rfl) rfl rfl (Pe9 rfl rfl rfl) (T9 12 rfl (by kernel_rfl) rfl rfl (Pe9 rfl rfl rfl) (Ar9 [14] (by kernel_rfl) (by decide) ?_))))
         refine Ac09 rfl rfl rfl (OpT_storeAll (r:=152) rfl Tryz.sizeOf50 rfl rfl rfl (refC_len zeroId_length) (refC_len hit) (refC_one hvt) ?_) ?_
         ·
          refine ⟨⟨rfl,rfl,trivial⟩,?_⟩
          refine (T9 15 rfl (by kernel_rfl) rfl rfl (Pg9 rfl rfl) (Ad9 (by kernel_rfl) ?_))
          exact X_cut () trivial (a9 rfl) (a9 rfl)
         exact An9
        exact An9
       exact An9
      exact An9
     exact An9
    exact An9
   refine Ac9 rfl rfl rfl (by decide) (OpT_buildRows (r:=151) [itC (ins.getD x.1 it0)] rfl rfl Tryz.runUnderlying24 Tryz.sizeOf38 Tryz.zeroValue38 rfl (by decide) rfl (by decide) (by intro r hr; simp at hr; rw [hr]; rfl) rfl (fun v29 => ⟨⟨rfl,rfl,trivial⟩,?_⟩)) ?_
   ·
    refine (Ar9 [0,13] (by kernel_rfl) (by decide) ?_)
    refine Ac9 rfl rfl rfl (by decide) (OpT_buildRows (r:=152) [] rfl rfl Tryz.runUnderlying24 Tryz.sizeOf38 Tryz.zeroValue38 rfl (by decide) rfl (by decide) (by intro r hr; simp at hr) rfl (fun v22 => ⟨⟨rfl,rfl,trivial⟩,?_⟩)) ?_
    ·
     refine AH_turn (P':=rowR itC 2 38 v22 []) 152 rfl (fun h hp => hp) ?_
     refine (Ar9 [2,13] (by kernel_rfl) (by decide) ?_)
     refine Ac9 rfl rfl rfl (by decide) (Oa9 (r:=152) (r2:=7) rfl Tryz.underlying24 TI.hi38 TI.hz38 TI.hs38 TI.hby38 TI.hzs38 (by decide) rfl rfl rfl rfl rowR_rd hones (by unfold maxLen; rw [List.length_nil]; omega) (by rw [List.length_nil]; omega) (fun v24 => ?_)) ?_
     ·
      refine ⟨⟨rfl,rfl,trivial⟩,?_⟩
      refine AH_turn (P':=rowR itC 2 38 v24 ([] ++ x.2.2)) 152 rfl (fun h hp => row_its hp (by rw [List.length_nil]) rfl) ?_
      refine (Ar9 [8,13] (by kernel_rfl) (by decide) ?_)
      refine Ac9 rfl rfl rfl (by decide) (Oa9 (r:=152) (r2:=151) rfl Tryz.underlying24 TI.hi38 TI.hz38 TI.hs38 TI.hby38 TI.hzs38 (by decide) rfl rfl rfl rfl (fun _ h => rp9 h) (by rw [List.flatten_cons,List.flatten_nil,List.append_nil]; exact itC_one hq1) (by unfold maxLen; rw [List.nil_append]; omega) (by rw [List.nil_append]; omega) (fun v30 => ?_)) ?_
      ·
       refine ⟨⟨rfl,rfl,trivial⟩,?_⟩
       refine AH_turn (P':=rowR itC 2 38 v30 (x.2.2 ++ [(ins.getD x.1 it0)])) 152 rfl (fun h hp => row_it hp) ?_
       refine (Ar9 [9,13] (by kernel_rfl) (by decide) ?_)
       refine Ac9 rfl rfl rfl (by decide) (Oc9 200 [0,5,6,7,151,152] [] rfl Tryz.call21 rfl rfl rfl (by decide) (by decide) (good_next hlt.1 hlt.2 hxm his v30 _ (rs9 5 rfl rowR_rd) (datI_star 2 rfl (fun _ h => h))) (fun v31 Ps31 hR31 => ?_)) ?_
       ·
        obtain ⟨vt,idt,mt,lt,rfl,rfl,hit,hvt,_,_⟩:=hR31
        refine ⟨⟨rfl,rfl,trivial⟩,?_⟩
        refine (T9 10 rfl (by kernel_rfl) rfl rfl (Pm9 rfl rfl) (T9 11 rfl (by kernel_rfl) rfl rfl (Pe9 rfl rfl rfl) (T9 12 rfl (by kernel_rfl) rfl rfl (Pe9 rfl rfl rfl) (Ar9 [13] (by kernel_rfl) (by decide) ?_))))
        refine Ac9 rfl rfl rfl (by decide) (OpT_alloc (r:=201) (cs:=(refC (.slice none 0 0) zeroId false)) rfl (zero_run (by kernel_rfl : (Tryz.prog.info? 50).bind (·.zero) = some (.agg (refC (.slice none 0 0) zeroId false).toArray))) rfl (fun g201 => ⟨⟨rfl,rfl,trivial⟩,?_⟩)) ?_
        ·
         refine (Ar9 [14] (by kernel_rfl) (by decide) ?_)
         refine Ac09 rfl rfl rfl (OpT_storeAll (r:=201) rfl Tryz.sizeOf50 rfl rfl rfl (refC_len zeroId_length) (refC_len hit) (refC_one hvt) ?_) ?_
         ·
          refine ⟨⟨rfl,rfl,trivial⟩,?_⟩
          refine (T9 15 rfl (by kernel_rfl) rfl rfl (Pg9 rfl rfl) (Ad9 (by kernel_rfl) ?_))
          exact X_cut () trivial (a9 rfl) (a9 rfl)
         exact An9
        exact An9
       refine Ac9 rfl rfl rfl (by decide) (OpT_alloc (r:=153) (cs:=(refC (.slice none 0 0) zeroId false)) rfl (zero_run (by kernel_rfl : (Tryz.prog.info? 50).bind (·.zero) = some (.agg (refC (.slice none 0 0) zeroId false).toArray))) rfl (fun g153 => ⟨⟨rfl,rfl,trivial⟩,?_⟩)) ?_
       ·
        refine (Ar9 [9] (by kernel_rfl) (by decide) ?_)
        refine Ac9 rfl rfl rfl (by decide) (Oc9 200 [0,5,6,7,151,152,153] [] rfl Tryz.call21 rfl rfl rfl (by decide) (by decide) (good_next hlt.1 hlt.2 hxm his v30 _ (rs9 5 rfl rowR_rd) (datI_star 2 rfl (fun _ h => h))) (fun v31 Ps31 hR31 => ?_)) ?_
        ·
         obtain ⟨vt,idt,mt,lt,rfl,rfl,hit,hvt,_,_⟩:=hR31
         refine ⟨⟨rfl,rfl,trivial⟩,?_⟩
         refine (T9 10 rfl (by kernel_rfl) rfl rfl (Pm9 rfl rfl) (T9 11 rfl (by kernel_rfl) rfl rfl (Pe9 rfl rfl rfl) (T9 12 rfl (by kernel_rfl) rfl rfl (Pe9 rfl rfl rfl) (Ar9 [14] (by kernel_rfl) (by decide) ?_))))
         refine Ac09 rfl rfl rfl (OpT_storeAll (r:=153) rfl Tryz.sizeOf50 rfl rfl rfl (refC_len zeroId_length) (refC_len hit) (refC_one hvt) ?_) ?_
         ·
          refine ⟨⟨rfl,rfl,trivial⟩,?_⟩
          refine (T9 15 rfl (by kernel_rfl) rfl rfl (Pg9 rfl rfl) (Ad9 (by kernel_rfl) ?_))
          exact X_cut () trivial (a9 rfl) (a9 rfl)
         exact An9
        exact An9
       exact An9
      refine Ac9 rfl rfl rfl (by decide) (OpT_alloc (r:=153) (cs:=(refC (.slice none 0 0) zeroId false)) rfl (zero_run (by kernel_rfl : (Tryz.prog.info? 50).bind (·.zero) = some (.agg (refC (.slice none 0 0) zeroId false).toArray))) rfl (fun g153 => ⟨⟨rfl,rfl,trivial⟩,?_⟩)) ?_
      ·
       refine (Ar9 [8] (by kernel_rfl) (by decide) ?_)
       refine Ac9 rfl rfl rfl (by decide) (Oa9 (r:=152) (r2:=151) rfl Tryz.underlying24 TI.hi38 TI.hz38 TI.hs38 TI.hby38 TI.hzs38 (by decide) rfl rfl rfl rfl (fun _ h => rp9 h) (by rw [List.flatten_cons,List.flatten_nil,List.append_nil]; exact itC_one hq1) (by unfold maxLen; rw [List.nil_append]; omega) (by rw [List.nil_append]; omega) (fun v30 => ?_)) ?_
       ·
        refine ⟨⟨rfl,rfl,trivial⟩,?_⟩
        refine AH_turn (P':=rowR itC 2 38 v30 (x.2.2 ++ [(ins.getD x.1 it0)])) 152 rfl (fun h hp => row_it hp) ?_
        refine (Ar9 [9] (by kernel_rfl) (by decide) ?_)
        refine Ac9 rfl rfl rfl (by decide) (Oc9 200 [0,5,6,7,151,152,153] [] rfl Tryz.call21 rfl rfl rfl (by decide) (by decide) (good_next hlt.1 hlt.2 hxm his v30 _ (rs9 5 rfl rowR_rd) (datI_star 2 rfl (fun _ h => h))) (fun v31 Ps31 hR31 => ?_)) ?_
        ·
         obtain ⟨vt,idt,mt,lt,rfl,rfl,hit,hvt,_,_⟩:=hR31
         refine ⟨⟨rfl,rfl,trivial⟩,?_⟩
         refine (T9 10 rfl (by kernel_rfl) rfl rfl (Pm9 rfl rfl) (T9 11 rfl (by kernel_rfl) rfl rfl (Pe9 rfl rfl rfl) (T9 12 rfl (by kernel_rfl) rfl rfl (Pe9 rfl rfl rfl) (Ar9 [14] (by kernel_rfl) (by decide) ?_))))
         refine Ac09 rfl rfl rfl (OpT_storeAll (r:=153) rfl Tryz.sizeOf50 rfl rfl rfl (refC_len zeroId_length) (refC_len hit) (refC_one hvt) ?_) ?_
         ·
          refine ⟨⟨rfl,rfl,trivial⟩,?_⟩
          refine (T9 15 rfl (by kernel_rfl) rfl rfl (Pg9 rfl rfl) (Ad9 (by kernel_rfl) ?_))
          exact X_cut () trivial (a9 rfl) (a9 rfl)
         exact An9
        exact An9
       exact An9
      exact An9
     refine Ac9 rfl rfl rfl (by decide) (OpT_alloc (r:=153) (cs:=(refC (.slice none 0 0) zeroId false)) rfl (zero_run (by kernel_rfl : (Tryz.prog.info? 50).bind (·.zero) = some (.agg (refC (.slice none 0 0) zeroId false).toArray))) rfl (fun g153 => ⟨⟨rfl,rfl,trivial⟩,?_⟩)) ?_
     ·
      refine (Ar9 [2] (by kernel_rfl) (by decide) ?_)
      refine Ac9 rfl rfl rfl (by decide) (Oa9 (r:=152) (r2:=7) rfl Tryz.underlying24 TI.hi38 TI.hz38 TI.hs38 TI.hby38 TI.hzs38 (by decide) rfl rfl rfl rfl rowR_rd hones (by unfold maxLen; rw [List.length_nil]; omega) (by rw [List.length_nil]; omega) (fun v24 => ?_)) ?_
      ·
       refine ⟨⟨rfl,rfl,trivial⟩,?_⟩
       refine AH_turn (P':=rowR itC 2 38 v24 ([] ++ x.2.2)) 152 rfl (fun h hp => row_its hp (by rw [List.length_nil]) rfl) ?_
       refine (Ar9 [8] (by kernel_rfl) (by decide) ?_)
       refine Ac9 rfl rfl rfl (by decide) (Oa9 (r:=152) (r2:=151) rfl Tryz.underlying24 TI.hi38 TI.hz38 TI.hs38 TI.hby38 TI.hzs38 (by decide) rfl rfl rfl rfl (fun _ h => rp9 h) (by rw [List.flatten_cons,List.flatten_nil,List.append_nil]; exact itC_one hq1) (by unfold maxLen; rw [List.nil_append]; omega) (by rw [List.nil_append]; omega) (fun v30 => ?_)) ?_
       ·
        refine ⟨⟨rfl,rfl,trivial⟩,?_⟩
        refine AH_turn (P':=rowR itC 2 38 v30 (x.2.2 ++ [(ins.getD x.1 it0)])) 152 rfl (fun h hp => row_it hp) ?_
        refine (Ar9 [9] (by kernel_rfl) (by decide) ?_)
        refine Ac9 rfl rfl rfl (by decide) (Oc9 200 [0,5,6,7,151,152,153] [] rfl Tryz.call21 rfl rfl rfl (by decide) (by decide) (good_next hlt.1 hlt.2 hxm his v30 _ (rs9 5 rfl rowR_rd) (datI_star 2 rfl (fun _ h => h))) (fun v31 Ps31 hR31 => ?_)) ?_
        ·
         obtain ⟨vt,idt,mt,lt,rfl,rfl,hit,hvt,_,_⟩:=hR31
         refine ⟨⟨rfl,rfl,trivial⟩,?_⟩
         refine (T9 10 rfl (by kernel_rfl) rfl rfl (Pm9 rfl rfl) (T9 11 rfl (by kernel_rfl) rfl rfl (Pe9 rfl rfl rfl) (T9 12 rfl (by kernel_rfl) rfl rfl (Pe9 rfl rfl rfl) (Ar9 [14] (by kernel_rfl) (by decide) ?_))))
         refine Ac09 rfl rfl rfl (OpT_storeAll (r:=153) rfl Tryz.sizeOf50 rfl rfl rfl (refC_len zeroId_length) (refC_len hit) (refC_one hvt) ?_) ?_
         ·
          refine ⟨⟨rfl,rfl,trivial⟩,?_⟩
          refine (T9 15 rfl (by kernel_rfl) rfl rfl (Pg9 rfl rfl) (Ad9 (by kernel_rfl) ?_))
          exact X_cut () trivial (a9 rfl) (a9 rfl)
         exact An9
        exact An9
       exact An9
      exact An9
     exact An9
    refine Ac9 rfl rfl rfl (by decide) (OpT_alloc (r:=152) (cs:=(refC (.slice none 0 0) zeroId false)) rfl (zero_run (by kernel_rfl : (Tryz.prog.info? 50).bind (·.zero) = some (.agg (refC (.slice none 0 0) zeroId false).toArray))) rfl (fun g152 => ⟨⟨rfl,rfl,trivial⟩,?_⟩)) ?_
    ·
     refine (Ar9 [0] (by kernel_rfl) (by decide) ?_)
     refine Ac9 rfl rfl rfl (by decide) (OpT_buildRows (r:=153) [] rfl rfl Tryz.runUnderlying24 Tryz.sizeOf38 Tryz.zeroValue38 rfl (by decide) rfl (by decide) (by intro r hr; simp at hr) rfl (fun v22 => ⟨⟨rfl,rfl,trivial⟩,?_⟩)) ?_
     ·
      refine AH_turn (P':=rowR itC 2 38 v22 []) 153 rfl (fun h hp => hp) ?_
      refine (Ar9 [2] (by kernel_rfl) (by decide) ?_)
      refine Ac9 rfl rfl rfl (by decide) (Oa9 (r:=153) (r2:=7) rfl Tryz.underlying24 TI.hi38 TI.hz38 TI.hs38 TI.hby38 TI.hzs38 (by decide) rfl rfl rfl rfl rowR_rd hones (by unfold maxLen; rw [List.length_nil]; omega) (by rw [List.length_nil]; omega) (fun v24 => ?_)) ?_
      ·
       refine ⟨⟨rfl,rfl,trivial⟩,?_⟩
       refine AH_turn (P':=rowR itC 2 38 v24 ([] ++ x.2.2)) 153 rfl (fun h hp => row_its hp (by rw [List.length_nil]) rfl) ?_
       refine (Ar9 [8] (by kernel_rfl) (by decide) ?_)
       refine Ac9 rfl rfl rfl (by decide) (Oa9 (r:=153) (r2:=151) rfl Tryz.underlying24 TI.hi38 TI.hz38 TI.hs38 TI.hby38 TI.hzs38 (by decide) rfl rfl rfl rfl (fun _ h => rp9 h) (by rw [List.flatten_cons,List.flatten_nil,List.append_nil]; exact itC_one hq1) (by unfold maxLen; rw [List.nil_append]; omega) (by rw [List.nil_append]; omega) (fun v30 => ?_)) ?_
       ·
        refine ⟨⟨rfl,rfl,trivial⟩,?_⟩
        refine AH_turn (P':=rowR itC 2 38 v30 (x.2.2 ++ [(ins.getD x.1 it0)])) 153 rfl (fun h hp => row_it hp) ?_
        refine (Ar9 [9] (by kernel_rfl) (by decide) ?_)
        refine Ac9 rfl rfl rfl (by decide) (Oc9 200 [0,5,6,7,151,152,153] [] rfl Tryz.call21 rfl rfl rfl (by decide) (by decide) (good_next hlt.1 hlt.2 hxm his v30 _ (rs9 6 rfl rowR_rd) (datI_star 2 rfl (fun _ h => h))) (fun v31 Ps31 hR31 => ?_)) ?_
        ·
         obtain ⟨vt,idt,mt,lt,rfl,rfl,hit,hvt,_,_⟩:=hR31
         refine ⟨⟨rfl,rfl,trivial⟩,?_⟩
         refine (T9 10 rfl (by kernel_rfl) rfl rfl (Pm9 rfl rfl) (T9 11 rfl (by kernel_rfl) rfl rfl (Pe9 rfl rfl rfl) (T9 12 rfl (by kernel_rfl) rfl rfl (Pe9 rfl rfl rfl) (Ar9 [14] (by kernel_rfl) (by decide) ?_))))
         refine Ac09 rfl rfl rfl (OpT_storeAll (r:=152) rfl Tryz.sizeOf50 rfl rfl rfl (refC_len zeroId_length) (refC_len hit) (refC_one hvt) ?_) ?_
         ·
          refine ⟨⟨rfl,rfl,trivial⟩,?_⟩
          refine (T9 15 rfl (by kernel_rfl) rfl rfl (Pg9 rfl rfl) (Ad9 (by kernel_rfl) ?_))
          exact X_cut () trivial (a9 rfl) (a9 rfl)
         exact An9
        exact An9
       exact An9
      exact An9
     exact An9
    exact An9
   refine Ac9 rfl rfl rfl (by decide) (OpT_alloc (r:=151) (cs:=(refC (.slice none 0 0) zeroId false)) rfl (zero_run (by kernel_rfl : (Tryz.prog.info? 50).bind (·.zero) = some (.agg (refC (.slice none 0 0) zeroId false).toArray))) rfl (fun g151 => ⟨⟨rfl,rfl,trivial⟩,?_⟩)) ?_
   ·
    refine (Ar9 [0,7] (by kernel_rfl) (by decide) ?_)
    refine Ac9 rfl rfl rfl (by decide) (OpT_buildRows (r:=152) [] rfl rfl Tryz.runUnderlying24 Tryz.sizeOf38 Tryz.zeroValue38 rfl (by decide) rfl (by decide) (by intro r hr; simp at hr) rfl (fun v22 => ⟨⟨rfl,rfl,trivial⟩,?_⟩)) ?_
    ·
     refine AH_turn (P':=rowR itC 2 38 v22 []) 152 rfl (fun h hp => hp) ?_
     refine (Ar9 [2,7] (by kernel_rfl) (by decide) ?_)
     refine Ac9 rfl rfl rfl (by decide) (Oa9 (r:=152) (r2:=7) rfl Tryz.underlying24 TI.hi38 TI.hz38 TI.hs38 TI.hby38 TI.hzs38 (by decide) rfl rfl rfl rfl rowR_rd hones (by unfold maxLen; rw [List.length_nil]; omega) (by rw [List.length_nil]; omega) (fun v24 => ?_)) ?_
     ·
      refine ⟨⟨rfl,rfl,trivial⟩,?_⟩
      refine AH_turn (P':=rowR itC 2 38 v24 ([] ++ x.2.2)) 152 rfl (fun h hp => row_its hp (by rw [List.length_nil]) rfl) ?_
      refine (Ar9 [7] (by kernel_rfl) (by decide) ?_)
      refine Ac9 rfl rfl rfl (by decide) (OpT_buildRows (r:=153) [itC (ins.getD x.1 it0)] rfl rfl Tryz.runUnderlying24 Tryz.sizeOf38 Tryz.zeroValue38 rfl (by decide) rfl (by decide) (by intro r hr; simp at hr; rw [hr]; rfl) rfl (fun v29 => ⟨⟨rfl,rfl,trivial⟩,?_⟩)) ?_
      ·
       refine (Ar9 [8] (by kernel_rfl) (by decide) ?_)
       refine Ac9 rfl rfl rfl (by decide) (Oa9 (r:=152) (r2:=153) rfl Tryz.underlying24 TI.hi38 TI.hz38 TI.hs38 TI.hby38 TI.hzs38 (by decide) rfl rfl rfl rfl (fun _ h => rp9 h) (by rw [List.flatten_cons,List.flatten_nil,List.append_nil]; exact itC_one hq1) (by unfold maxLen; rw [List.nil_append]; omega) (by rw [List.nil_append]; omega) (fun v30 => ?_)) ?_
       ·
        refine ⟨⟨rfl,rfl,trivial⟩,?_⟩
        refine AH_turn (P':=rowR itC 2 38 v30 (x.2.2 ++ [(ins.getD x.1 it0)])) 152 rfl (fun h hp => row_it hp) ?_
        refine (Ar9 [9] (by kernel_rfl) (by decide) ?_)
        refine Ac9 rfl rfl rfl (by decide) (Oc9 200 [0,5,6,7,151,152,153] [] rfl Tryz.call21 rfl rfl rfl (by decide) (by decide) (good_next hlt.1 hlt.2 hxm his v30 _ (rs9 5 rfl rowR_rd) (datI_star 2 rfl (fun _ h => h))) (fun v31 Ps31 hR31 => ?_)) ?_
        ·
         obtain ⟨vt,idt,mt,lt,rfl,rfl,hit,hvt,_,_⟩:=hR31
         refine ⟨⟨rfl,rfl,trivial⟩,?_⟩
         refine (T9 10 rfl (by kernel_rfl) rfl rfl (Pm9 rfl rfl) (T9 11 rfl (by kernel_rfl) rfl rfl (Pe9 rfl rfl rfl) (T9 12 rfl (by kernel_rfl) rfl rfl (Pe9 rfl rfl rfl) (Ar9 [14] (by kernel_rfl) (by decide) ?_))))
         refine Ac09 rfl rfl rfl (OpT_storeAll (r:=151) rfl Tryz.sizeOf50 rfl rfl rfl (refC_len zeroId_length) (refC_len hit) (refC_one hvt) ?_) ?_
         ·
          refine ⟨⟨rfl,rfl,trivial⟩,?_⟩
          refine (T9 15 rfl (by kernel_rfl) rfl rfl (Pg9 rfl rfl) (Ad9 (by kernel_rfl) ?_))
          exact X_cut () trivial (a9 rfl) (a9 rfl)
         exact An9
        exact An9
       exact An9
      exact An9
     refine Ac9 rfl rfl rfl (by decide) (OpT_buildRows (r:=153) [itC (ins.getD x.1 it0)] rfl rfl Tryz.runUnderlying24 Tryz.sizeOf38 Tryz.zeroValue38 rfl (by decide) rfl (by decide) (by intro r hr; simp at hr; rw [hr]; rfl) rfl (fun v29 => ⟨⟨rfl,rfl,trivial⟩,?_⟩)) ?_
     ·
      refine (Ar9 [2] (by kernel_rfl) (by decide) ?_)
      refine Ac9 rfl rfl rfl (by decide) (Oa9 (r:=152) (r2:=7) rfl Tryz.underlying24 TI.hi38 TI.hz38 TI.hs38 TI.hby38 TI.hzs38 (by decide) rfl rfl rfl rfl rowR_rd hones (by unfold maxLen; rw [List.length_nil]; omega) (by rw [List.length_nil]; omega) (fun v24 => ?_)) ?_
      ·
       refine ⟨⟨rfl,rfl,trivial⟩,?_⟩
       refine AH_turn (P':=rowR itC 2 38 v24 ([] ++ x.2.2)) 152 rfl (fun h hp => row_its hp (by rw [List.length_nil]) rfl) ?_
       refine (Ar9 [8] (by kernel_rfl) (by decide) ?_)
       refine Ac9 rfl rfl rfl (by decide) (Oa9 (r:=152) (r2:=153) rfl Tryz.underlying24 TI.hi38 TI.hz38 TI.hs38 TI.hby38 TI.hzs38 (by decide) rfl rfl rfl rfl (fun _ h => rp9 h) (by rw [List.flatten_cons,List.flatten_nil,List.append_nil]; exact itC_one hq1) (by unfold maxLen; rw [List.nil_append]; omega) (by rw [List.nil_append]; omega) (fun v30 => ?_)) ?_
       ·
        refine ⟨⟨rfl,rfl,trivial⟩,?_⟩
        refine AH_turn (P':=rowR itC 2 38 v30 (x.2.2 ++ [(ins.getD x.1 it0)])) 152 rfl (fun h hp => row_it hp) ?_
        refine (Ar9 [9] (by kernel_rfl) (by decide) ?_)
        refine Ac9 rfl rfl rfl (by decide) (Oc9 200 [0,5,6,7,151,152,153] [] rfl Tryz.call21 rfl rfl rfl (by decide) (by decide) (good_next hlt.1 hlt.2 hxm his v30 _ (rs9 5 rfl rowR_rd) (datI_star 2 rfl (fun _ h => h))) (fun v31 Ps31 hR31 => ?_)) ?_
        ·
         obtain ⟨vt,idt,mt,lt,rfl,rfl,hit,hvt,_,_⟩:=hR31
         refine ⟨⟨rfl,rfl,trivial⟩,?_⟩
         refine (T9 10 rfl (by kernel_rfl) rfl rfl (Pm9 rfl rfl) (T9 11 rfl (by kernel_rfl) rfl rfl (Pe9 rfl rfl rfl) (T9 12 rfl (by kernel_rfl) rfl rfl (Pe9 rfl rfl rfl) (Ar9 [14] (by kernel_rfl) (by decide) ?_))))
         refine Ac09 rfl rfl rfl (OpT_storeAll (r:=151) rfl Tryz.sizeOf50 rfl rfl rfl (refC_len zeroId_length) (refC_len hit) (refC_one hvt) ?_) ?_
         ·
          refine ⟨⟨rfl,rfl,trivial⟩,?_⟩
          refine (T9 15 rfl (by kernel_rfl) rfl rfl (Pg9 rfl rfl) (Ad9 (by kernel_rfl) ?_))
          exact X_cut () trivial (a9 rfl) (a9 rfl)
         exact An9
        exact An9
       exact An9
      exact An9
     exact An9
    refine Ac9 rfl rfl rfl (by decide) (OpT_buildRows (r:=152) [itC (ins.getD x.1 it0)] rfl rfl Tryz.runUnderlying24 Tryz.sizeOf38 Tryz.zeroValue38 rfl (by decide) rfl (by decide) (by intro r hr; simp at hr; rw [hr]; rfl) rfl (fun v29 => ⟨⟨rfl,rfl,trivial⟩,?_⟩)) ?_
    ·
     refine (Ar9 [0] (by kernel_rfl) (by decide) ?_)
     refine Ac9 rfl rfl rfl (by decide) (OpT_buildRows (r:=153) [] rfl rfl Tryz.runUnderlying24 Tryz.sizeOf38 Tryz.zeroValue38 rfl (by decide) rfl (by decide) (by intro r hr; simp at hr) rfl (fun v22 => ⟨⟨rfl,rfl,trivial⟩,?_⟩)) ?_
     ·
      refine AH_turn (P':=rowR itC 2 38 v22 []) 153 rfl (fun h hp => hp) ?_
      refine (Ar9 [2] (by kernel_rfl) (by decide) ?_)
      refine Ac9 rfl rfl rfl (by decide) (Oa9 (r:=153) (r2:=7) rfl Tryz.underlying24 TI.hi38 TI.hz38 TI.hs38 TI.hby38 TI.hzs38 (by decide) rfl rfl rfl rfl rowR_rd hones (by unfold maxLen; rw [List.length_nil]; omega) (by rw [List.length_nil]; omega) (fun v24 => ?_)) ?_
      ·
       refine ⟨⟨rfl,rfl,trivial⟩,?_⟩
       refine AH_turn (P':=rowR itC 2 38 v24 ([] ++ x.2.2)) 153 rfl (fun h hp => row_its hp (by rw [List.length_nil]) rfl) ?_
       refine (Ar9 [8] (by kernel_rfl) (by decide) ?_)
       refine Ac9 rfl rfl rfl (by decide) (Oa9 (r:=153) (r2:=152) rfl Tryz.underlying24 TI.hi38 TI.hz38 TI.hs38 TI.hby38 TI.hzs38 (by decide) rfl rfl rfl rfl (fun _ h => rp9 h) (by rw [List.flatten_cons,List.flatten_nil,List.append_nil]; exact itC_one hq1) (by unfold maxLen; rw [List.nil_append]; omega) (by rw [List.nil_append]; omega) (fun v30 => ?_)) ?_
       ·
        refine ⟨⟨rfl,rfl,trivial⟩,?_⟩
        refine AH_turn (P':=rowR itC 2 38 v30 (x.2.2 ++ [(ins.getD x.1 it0)])) 153 rfl (fun h hp => row_it hp) ?_
        refine (Ar9 [9] (by kernel_rfl) (by decide) ?_)
        refine Ac9 rfl rfl rfl (by decide) (Oc9 200 [0,5,6,7,151,152,153] [] rfl Tryz.call21 rfl rfl rfl (by decide) (by decide) (good_next hlt.1 hlt.2 hxm his v30 _ (rs9 6 rfl rowR_rd) (datI_star 2 rfl (fun _ h => h))) (fun v31 Ps31 hR31 => ?_)) ?_
        ·
         obtain ⟨vt,idt,mt,lt,rfl,rfl,hit,hvt,_,_⟩:=hR31
         refine ⟨⟨rfl,rfl,trivial⟩,?_⟩
         refine (T9 10 rfl (by kernel_rfl) rfl rfl (Pm9 rfl rfl) (T9 11 rfl (by kernel_rfl) rfl rfl (Pe9 rfl rfl rfl) (T9 12 rfl (by kernel_rfl) rfl rfl (Pe9 rfl rfl rfl) (Ar9 [14] (by kernel_rfl) (by decide) ?_))))
         refine Ac09 rfl rfl rfl (OpT_storeAll (r:=151) rfl Tryz.sizeOf50 rfl rfl rfl (refC_len zeroId_length) (refC_len hit) (refC_one hvt) ?_) ?_
         ·
          refine ⟨⟨rfl,rfl,trivial⟩,?_⟩
          refine (T9 15 rfl (by kernel_rfl) rfl rfl (Pg9 rfl rfl) (Ad9 (by kernel_rfl) ?_))
          exact X_cut () trivial (a9 rfl) (a9 rfl)
         exact An9
        exact An9
       exact An9
      exact An9
     exact An9
    exact An9
   exact An9
  ·
   refine Q9 ?_
   refine J9 [(3,_),(4,_),(5,_),(7,_)] [(0,_),(5,_),(6,_),(7,_)] ?_ ⟨rfl,rfl,rfl,rfl,trivial⟩ ⟨rfl,rfl,rfl,rfl,trivial⟩
   refine R9 (M9 rfl rfl rfl (L9 rfl rfl (Pn9 rfl rfl rfl (run_eql _ _ _ _ _ _)) (N9 (X9 ?_))))
   refine C9 rfl (fun hc35 => ?_) (fun hc35 => ?_)
   ·
    have hb35 : buildE (x.2.2 ++ [(ins.getD x.1 it0)]) = 0:=by have:=of_decide_eq_true hc35; omega
    refine J9 [(3,_),(4,_),(5,_),(7,_),(35,_)] [(0,_),(5,_),(6,_),(7,_)] ?_ ⟨rfl,rfl,rfl,rfl,rfl,trivial⟩ ⟨rfl,rfl,rfl,rfl,trivial⟩
    refine R9 (M9 rfl rfl rfl (M9 rfl rfl rfl (M9 rfl rfl rfl (L9 rfl rfl (Pi9 (r:=5) rfl Tryz.runUnderlying24 Tryz.sizeOf38 rfl rfl rfl rowR_rd (by omega)) (L9 rfl rfl (Pz9 (r:=5) rfl Tryz.isAgg38 Tryz.sizeOf38 rfl rfl rowR_rd rfl (by decide) (its_all hlt.1)) (Lc9 rfl rfl (by decide) (OpT_buildRows (r:=151) [itC (ins.getD x.1 it0)] rfl rfl Tryz.runUnderlying24 Tryz.sizeOf38 Tryz.zeroValue38 rfl (by decide) rfl (by decide) (by intro r hr; simp at hr; rw [hr]; rfl) rfl (fun v41 => (Lc9 rfl rfl (by decide) (Oa9 (r:=7) (r2:=151) rfl Tryz.underlying24 TI.hi38 TI.hz38 TI.hs38 TI.hby38 TI.hzs38 (by decide) rfl rfl rfl rfl (fun _ h => rp9 h) (by rw [List.flatten_cons,List.flatten_nil,List.append_nil]; exact itC_one hq1) (by unfold maxLen; omega) (by omega) (fun v42 => ?_)))))))))))
    refine Lt9 (P':=rowR itC 2 38 v42 (x.2.2 ++ [(ins.getD x.1 it0)])) (r:=7) rfl (fun h hp => row_it hp) ?_
    refine (G9 rfl rfl rfl (N9 (X_block (X9 ?_))))
    refine J9 [(3,_),(4,_),(5,_),(7,_),(35,_)] [(0,_),(5,_),(6,_),(7,_),(151,_)] ?_ ⟨rfl,rfl,rfl,rfl,rfl,trivial⟩ ⟨rfl,rfl,rfl,rfl,rfl,trivial⟩
    refine R9 (M9 rfl rfl rfl (L9 rfl rfl (Pn9 rfl rfl rfl (run_add _ _ _ _ _ (by omega))) (G9 rfl rfl rfl (N9 ?_))))
    exact Xr9 (x.1 + 1,v42,x.2.2 ++ [(ins.getD x.1 it0)]) ⟨by dsimp only; omega,by dsimp only; rw [List.length_append,List.length_singleton]; omega,by dsimp only; rw [List.length_append,List.length_singleton]; omega,fun q hq => (List.mem_append.1 hq).elim (hxm q) (fun h => by rw [List.mem_singleton.1 h]; exact it_get hlt.1),hb35⟩ (by dsimp only; omega) (a9 rfl) (a9 rfl)
   ·
    refine K9 (X_block (X9 ?_))
    refine J9 [(3,_),(4,_),(5,_),(7,_),(35,_)] [(0,_),(5,_),(6,_),(7,_)] ?_ ⟨rfl,rfl,rfl,rfl,rfl,trivial⟩ ⟨rfl,rfl,rfl,rfl,trivial⟩
    refine R9 (M9 rfl rfl rfl (L9 rfl rfl (Pn9 rfl rfl rfl (run_add _ _ _ _ _ (by omega))) (G9 rfl rfl rfl (N9 ?_))))
    exact Xr9 (x.1 + 1,x.2.1,x.2.2) ⟨by dsimp only; omega,by dsimp only; omega,hx20,hxm,hxb⟩ (by dsimp only; omega) (a9 rfl) (a9 rfl)
 ·
  refine W_exit (X_then_exit (X_then_exit (X_block_exit (X9 ?_))))
  refine Q9 ?_
  refine J9 [(3,_),(4,_),(5,_),(18,_)] [(0,_),(5,_),(6,_),(7,_)] ?_ ⟨rfl,rfl,rfl,rfl,trivial⟩ ⟨rfl,rfl,rfl,rfl,trivial⟩
  refine R9 (M9 rfl rfl rfl (G9 rfl rfl rfl (N9 (X9 ?_))))
  refine W_ret ?_
  refine X_turn (P':=datI x.2.2) 6 rfl (fun h hp => dat_sub hp hxm) ?_
  refine X_join [7,6] 7 (itemsP x.2.1 x.2.2) rfl (by decide) (fun h hs => hs) ?_
  exact Xq9 [7] (Ps:=[_]) (res1 Tryz.results14 rfl) rfl (by decide) ⟨x.2.2,hxb,hx20,fun q hq => his q (hxm q hq),rfl⟩
open Go.RowKit
def subP (n : List UInt8) : List PN → List PN
  | [] => []
  | p :: ps => match p.1 with
    | m :: k :: q => if m = n then (k :: q,p.2) :: subP n ps else subP n ps
    | _ => subP n ps
theorem subP_app (n : List UInt8) : ∀ a b : List PN,subP n (a ++ b) = subP n a ++ subP n b
  | [],b => rfl
  | p :: a,b => by
    rw [List.cons_append,subP,subP]
    split
    · split
      · rw [subP_app n a b]; rfl
      · exact subP_app n a b
    · exact subP_app n a b
theorem subP_one (n m : List UInt8) (d : List UInt8) : subP n [([m],d)] = []:=rfl
theorem subP_deep (n : List UInt8) (k : List UInt8) (q : List (List UInt8)) (d : List UInt8) : subP n [(n :: k :: q,d)] = [(k :: q,d)]:=by simp [subP]
theorem subP_oth {n m : List UInt8} (h : m ≠ n) (k : List UInt8) (q : List (List UInt8)) (d : List UInt8) : subP n [(m :: k :: q,d)] = []:=by simp [subP,h]
theorem subP_mem {n : List UInt8} {r : PN} : ∀ {ps : List PN},r ∈ subP n ps → ∃ k q,r.1 = k :: q ∧ (n :: k :: q,r.2) ∈ ps
  | [],h => by cases h
  | p :: ps,h => by
    rw [subP] at h
    split at h
    · rename_i m k q he
      split at h
      · rename_i hm
        rcases List.mem_cons.1 h with rfl | h
        · refine ⟨k,q,rfl,?_⟩
          rw [← hm,← he]
          exact List.mem_cons_self
        · obtain ⟨k',q',h1,h2⟩:=subP_mem h
          exact ⟨k',q',h1,List.mem_cons_of_mem _ h2⟩
      · obtain ⟨k',q',h1,h2⟩:=subP_mem h
        exact ⟨k',q',h1,List.mem_cons_of_mem _ h2⟩
    · obtain ⟨k',q',h1,h2⟩:=subP_mem h
      exact ⟨k',q',h1,List.mem_cons_of_mem _ h2⟩
theorem mem_subP {n k : List UInt8} {q : List (List UInt8)} {d : List UInt8} : ∀ {ps : List PN},(n :: k :: q,d) ∈ ps → (k :: q,d) ∈ subP n ps
  | [],h => by cases h
  | p :: ps,h => by
    rcases List.mem_cons.1 h with rfl | h
    · simp [subP]
    · have:=mem_subP h
      rw [subP]
      split
      · split
        · exact List.mem_cons_of_mem _ this
        · exact this
      · exact this
abbrev HD:=List (List UInt8 × HT)
def oneP (p : PN) : Bool:=p.1.length == 1
mutual
def Rel : HT → List PN → Prop
  | .mk _ _ _ dirs files,ps => (∀ p ∈ ps,p.1 ≠ []) ∧ files.map (fun f => (([f.1],f.2.2) : PN)) = ps.filter oneP ∧ (∀ n,subP n ps ≠ [] ↔ n ∈ dirs.map (·.1)) ∧ (files.map (·.1) ++ dirs.map (·.1)).Nodup ∧ dirs.length + files.length ≤ ps.length ∧ RelL dirs ps
def RelL : List (List UInt8 × HT) → List PN → Prop
  | [],_ => True
  | d :: ds,ps => Rel d.2 (subP d.1 ps) ∧ RelL ds ps
end
theorem Rel_mk {g gd gf : Nat} {dirs : List (List UInt8 × HT)} {files : List F3} {ps : List PN} : Rel (.mk g gd gf dirs files) ps ↔ (∀ p ∈ ps,p.1 ≠ []) ∧ files.map (fun f => (([f.1],f.2.2) : PN)) = ps.filter oneP ∧ (∀ n,subP n ps ≠ [] ↔ n ∈ dirs.map (·.1)) ∧ (files.map (·.1) ++ dirs.map (·.1)).Nodup ∧ dirs.length + files.length ≤ ps.length ∧ RelL dirs ps:=by rw [Rel]
theorem RelL_iff {ps : List PN} : ∀ {ds : List (List UInt8 × HT)},RelL ds ps ↔ ∀ d ∈ ds,Rel d.2 (subP d.1 ps)
  | [] => by simp [RelL]
  | d :: ds => by rw [RelL,RelL_iff]; simp
theorem Rel_nil (g gd gf : Nat) : Rel (.mk g gd gf [] []) []:=Rel_mk.2 ⟨by simp,rfl,by simp [subP],by simp,by simp,RelL_iff.2 (by simp)⟩
theorem nodup_end {α : Type} {a b : List α} {n : α} (h : (a ++ b).Nodup) (h1 : n ∉ a) (h2 : n ∉ b) : ((a ++ [n]) ++ b).Nodup:=by
  rw [List.append_assoc]
  have e : (a ++ ([n] ++ b)).Perm (n :: (a ++ b)):=List.perm_middle
  rw [e.nodup_iff,List.nodup_cons]
  exact ⟨by simp [h1,h2],h⟩
theorem Rel_put : ∀ (p : List (List UInt8)) (v : Value) (d : List UInt8) (T T' : HT),canPut p T = true → Put p v d T T' → ∀ ps,Rel T ps → Rel T' (ps ++ [(p,d)])
  | [],_,_,_,_,_,h,_,_ => by simp [Put] at h
  | [n],v,d,.mk g gd gf dirs files,T',hc,hp,ps,hr => by
    simp only [Put] at hp
    subst hp
    simp only [canPut,Bool.and_eq_true,Option.isNone_iff_eq_none] at hc
    rw [Rel_mk] at hr ⊢
    obtain ⟨h1,h2,h3,h4,h6,h5⟩:=hr
    have hs : ∀ m,subP m (ps ++ [([n],d)]) = subP m ps:=fun m => by rw [subP_app,subP_one,List.append_nil]
    refine ⟨fun p hp => ?_,?_,fun m => by rw [hs]; exact h3 m,?_,by simp only [List.length_append,List.length_singleton]; omega,RelL_iff.2 fun x hx => by rw [hs]; exact RelL_iff.1 h5 x hx⟩
    · rcases List.mem_append.1 hp with hp | hp
      · exact h1 p hp
      · rw [List.mem_singleton.1 hp]; simp
    · rw [List.map_append,h2,List.filter_append]
      simp [oneP]
    · rw [List.map_append]
      exact nodup_end h4 (lookA_none.1 hc.1) (lookA_none.1 hc.2)
  | n :: k :: p,v,d,.mk g gd gf dirs files,T',hc,hp,ps,hr => by
    simp only [Put] at hp
    rw [canPut,Bool.and_eq_true,Option.isNone_iff_eq_none] at hc
    obtain ⟨hc1,hc2⟩:=hc
    rw [Rel_mk] at hr
    obtain ⟨h1,h2,h3,h4,h6,h5⟩:=hr
    have hne : ∀ q ∈ ps ++ [((n :: k :: p,d) : PN)],q.1 ≠ []:=fun q hq => by
      rcases List.mem_append.1 hq with hq | hq
      · exact h1 q hq
      · rw [List.mem_singleton.1 hq]; simp
    have hfl : files.map (fun f => (([f.1],f.2.2) : PN)) = (ps ++ [((n :: k :: p,d) : PN)]).filter oneP:=by
      rw [h2,List.filter_append]
      simp [oneP]
    have hsn : subP n (ps ++ [((n :: k :: p,d) : PN)]) = subP n ps ++ [(k :: p,d)]:=by rw [subP_app,subP_deep]
    have hso : ∀ m,m ≠ n → subP m (ps ++ [((n :: k :: p,d) : PN)]) = subP m ps:=fun m hm => by rw [subP_app,subP_oth (fun h => hm h.symm),List.append_nil]
    rcases hp with ⟨a,c,t,t',rfl,ha,hpt,rfl⟩ | ⟨hno,g1,gd1,gf1,t',hpt,rfl⟩
    · have hat : lookA n (a ++ (n,t) :: c) = some t:=by simp [lookA_app,lookA,ha]
      rw [hat] at hc2
      have hnm : (a ++ (n,t') :: c).map (·.1) = (a ++ (n,t) :: c).map (·.1):=by simp
      rw [Rel_mk,hnm]
      have hnd : ((a ++ (n,t) :: c).map (·.1)).Nodup:=(List.nodup_append.1 h4).2.1
      have hnc : n ∉ c.map (·.1):=by
        rw [List.map_append,List.nodup_append] at hnd
        have:=hnd.2.1
        rw [List.map_cons,List.nodup_cons] at this
        exact this.1
      refine ⟨hne,hfl,fun m => ?_,h4,by simp only [List.length_append,List.length_cons,List.length_nil] at h6 ⊢; omega,RelL_iff.2 fun x hx => ?_⟩
      · by_cases hm : m = n
        · subst hm
          rw [hsn]
          simp
        · rw [hso m hm]; exact h3 m
      · have h5':=RelL_iff.1 h5
        rcases List.mem_append.1 hx with hx | hx
        · have hxn : x.1 ≠ n:=fun h => lookA_none.1 ha (by rw [← h]; exact List.mem_map_of_mem hx)
          rw [hso _ hxn]
          exact h5' x (by simp [hx])
        · rcases List.mem_cons.1 hx with rfl | hx
          · show Rel t' (subP n _)
            rw [hsn]
            exact Rel_put (k :: p) v d t t' hc2 hpt _ (h5' (n,t) (by simp))
          · have hxn : x.1 ≠ n:=fun h => hnc (by rw [← h]; exact List.mem_map_of_mem hx)
            rw [hso _ hxn]
            exact h5' x (by simp [hx])
    · have hnd:=lookA_none.1 hno
      have hs0 : subP n ps = []:=by
        cases hs : subP n ps with
        | nil => rfl
        | cons x l => exact absurd ((h3 n).1 (by rw [hs]; simp)) hnd
      rw [Rel_mk]
      refine ⟨hne,hfl,fun m => ?_,?_,by simp only [List.length_append,List.length_cons,List.length_nil]; omega,RelL_iff.2 fun x hx => ?_⟩
      · by_cases hm : m = n
        · subst hm
          rw [hsn]
          simp
        · rw [hso m hm,h3 m]
          simp [hm]
      · rw [List.map_append,← List.append_assoc]
        have e : ((files.map (·.1) ++ dirs.map (·.1)) ++ [n]).Perm (n :: (files.map (·.1) ++ dirs.map (·.1))):=by
          have:=List.perm_middle (a:=n) (l₁:=files.map (·.1) ++ dirs.map (·.1)) (l₂:=[])
          simpa using this
        show ((files.map (·.1) ++ dirs.map (·.1)) ++ [n]).Nodup
        rw [e.nodup_iff,List.nodup_cons]
        refine ⟨fun h => ?_,h4⟩
        rcases List.mem_append.1 h with h | h
        · exact lookA_none.1 hc1 h
        · exact hnd h
      · rcases List.mem_append.1 hx with hx | hx
        · have hxn : x.1 ≠ n:=fun h => hnd (by rw [← h]; exact List.mem_map_of_mem hx)
          rw [hso _ hxn]
          exact RelL_iff.1 h5 x hx
        · rw [List.mem_singleton.1 hx]
          show Rel t' (subP n _)
          rw [hsn,hs0]
          exact Rel_put (k :: p) v d _ t' (canPut_nil _ (by simp) _ _ _) hpt [] (Rel_nil _ _ _)
theorem Filled.rel {xs : List F3} {T : HT} (h : Filled xs T) : Rel T (partsN xs):=by
  induction h with
  | nil g gd gf => exact Rel_nil _ _ _
  | snoc l x T T' h1 h2 h3 ih =>
    have e : partsN (l ++ [x]) = partsN l ++ [(pathOf x,x.2.2)]:=by simp [partsN]
    rw [e]
    exact Rel_put _ _ _ _ _ h2 h3 _ ih
/-! ### The document's way through the parts -/
def filP (u : List UInt8) (ps : List PN) : List PN:=ps.filter fun p => decide (p.1 = [u])
theorem scan_is (u : List UInt8) : ∀ (ps : List PN),(∀ p ∈ ps,p.1 ≠ []) → ∀ (z : List UInt8) (bs : List (List UInt8)) (ss : List PN),ps.foldl (scan1 u) (z,bs,ss) = ((filP u ps).foldl (fun _ p => idF 1 p.2) z,bs ++ ((filP u ps).map fun p => blocksF 1 p.2).flatten,ss ++ subP u ps)
  | [],_,z,bs,ss => by simp [filP,subP]
  | p :: ps,hne,z,bs,ss => by
    have ih:=scan_is u ps (fun q hq => hne q (by simp [hq]))
    obtain ⟨l,d⟩:=p
    have h0:=hne (l,d) (by simp)
    rw [List.foldl_cons]
    match l,h0 with
    | [m],_ =>
      by_cases hm : m = u
      · subst hm
        have e1 : scan1 m (z,bs,ss) ([m],d) = (idF 1 d,bs ++ blocksF 1 d,ss):=by simp [scan1,headP]
        rw [e1,ih]
        simp [filP,subP]
      · have e1 : scan1 u (z,bs,ss) ([m],d) = (z,bs,ss):=by simp [scan1,headP,hm]
        rw [e1,ih]
        simp [filP,subP,hm]
    | m :: k :: q,_ =>
      by_cases hm : m = u
      · subst hm
        have e1 : scan1 m (z,bs,ss) (m :: k :: q,d) = (z,bs,ss ++ [(k :: q,d)]):=by simp [scan1,headP]
        rw [e1,ih]
        simp [filP,subP]
      · have e1 : scan1 u (z,bs,ss) (m :: k :: q,d) = (z,bs,ss):=by simp [scan1,headP,hm]
        rw [e1,ih]
        simp [filP,subP,hm]
theorem scanP_is {u : List UInt8} {ps : List PN} (hne : ∀ p ∈ ps,p.1 ≠ []) : scanP u ps = ((filP u ps).foldl (fun _ p => idF 1 p.2) zeroId,((filP u ps).map fun p => blocksF 1 p.2).flatten,subP u ps):=by
  unfold scanP
  rw [scan_is u ps hne]
  simp
theorem mem_insU {s x : List UInt8} : ∀ {l : List (List UInt8)},x = s ∨ x ∈ l → x ∈ insU s l
  | [],h => by simpa [insU] using h
  | y :: r,h => by
    rw [insU]
    split
    · rcases h with h | h
      · exact List.mem_cons_of_mem _ (mem_insU (.inl h))
      · rcases List.mem_cons.1 h with rfl | h
        · exact List.mem_cons_self
        · exact List.mem_cons_of_mem _ (mem_insU (.inr h))
    · split
      · rename_i h1 h2
        rcases h with h | h
        · rw [h,← h2]; exact List.mem_cons_self
        · exact h
      · rcases h with h | h
        · rw [h]; exact List.mem_cons_self
        · exact List.mem_cons_of_mem _ h
abbrev SortU (l : List (List UInt8)) : Prop:=l.Pairwise fun a b => Op.bytesLess a b = true
theorem insU_sort {s : List UInt8} : ∀ {l : List (List UInt8)},SortU l → SortU (insU s l)
  | [],_ => List.pairwise_singleton _ _
  | x :: l,h => by
    have h1:=(List.pairwise_cons.1 h).1
    rw [insU]
    split
    · rename_i hl
      refine List.pairwise_cons.2 ⟨fun y hy => ?_,insU_sort (List.pairwise_cons.1 h).2⟩
      rcases insU_mem hy with rfl | hy
      · exact hl
      · exact h1 y hy
    · split
      · exact h
      · rename_i hl hne
        have hex : Op.bytesLess s x = true:=less_of_not hl hne
        refine List.pairwise_cons.2 ⟨fun y hy => ?_,h⟩
        rcases List.mem_cons.1 hy with rfl | hy
        · exact hex
        · exact less_trans _ _ _ hex (h1 y hy)
theorem names_mem : ∀ (ps : List PN) (l : List (List UInt8)) (u : List UInt8),u ∈ ps.foldl (fun l p => insU (headP p) l) l ↔ u ∈ l ∨ ∃ p ∈ ps,headP p = u
  | [],l,u => by simp
  | p :: ps,l,u => by
    rw [List.foldl_cons,names_mem ps]
    constructor
    · rintro (h | ⟨q,hq,h⟩)
      · rcases insU_mem h with h | h
        · exact .inr ⟨p,by simp,h.symm⟩
        · exact .inl h
      · exact .inr ⟨q,by simp [hq],h⟩
    · rintro (h | ⟨q,hq,h⟩)
      · exact .inl (mem_insU (.inr h))
      · rcases List.mem_cons.1 hq with rfl | hq
        · exact .inl (mem_insU (.inl h.symm))
        · exact .inr ⟨q,hq,h⟩
theorem namesP_mem {ps : List PN} {u : List UInt8} : u ∈ namesP ps ↔ ∃ p ∈ ps,headP p = u:=by unfold namesP; rw [names_mem]; simp
theorem names_sort : ∀ (ps : List PN) (l : List (List UInt8)),SortU l → SortU (ps.foldl (fun l p => insU (headP p) l) l)
  | [],l,h => h
  | p :: ps,l,h => by rw [List.foldl_cons]; exact names_sort ps _ (insU_sort h)
theorem namesP_sort (ps : List PN) : SortU (namesP ps):=names_sort ps [] List.Pairwise.nil
theorem sortN_ext : ∀ {a b : List Ent},SortN a → SortN b → (∀ x,x ∈ a ↔ x ∈ b) → a = b
  | [],[],_,_,_ => rfl
  | [],y :: b,_,_,h => absurd ((h y).2 (by simp)) (by simp)
  | x :: a,[],_,_,h => absurd ((h x).1 (by simp)) (by simp)
  | x :: a,y :: b,ha,hb,h => by
    have ha1:=(List.pairwise_cons.1 ha).1
    have hb1:=(List.pairwise_cons.1 hb).1
    have hxy : x = y:=by
      rcases List.mem_cons.1 ((h x).1 (by simp)) with h1 | h1
      · exact h1
      · rcases List.mem_cons.1 ((h y).2 (by simp)) with h2 | h2
        · exact h2.symm
        · have h3:=less_trans _ _ _ (ha1 _ h2) (hb1 _ h1)
          rw [less_irr] at h3
          cases h3
    subst hxy
    have hna : x ∉ a:=fun hm => by have:=ha1 _ hm; rw [less_irr] at this; cases this
    have hnb : x ∉ b:=fun hm => by have:=hb1 _ hm; rw [less_irr] at this; cases this
    rw [sortN_ext (List.pairwise_cons.1 ha).2 (List.pairwise_cons.1 hb).2 fun z => ⟨fun hz => ?_,fun hz => ?_⟩]
    · rcases List.mem_cons.1 ((h z).1 (by simp [hz])) with rfl | h1
      · exact absurd hz hna
      · exact h1
    · rcases List.mem_cons.1 ((h z).2 (by simp [hz])) with rfl | h1
      · exact absurd hz hnb
      · exact h1
theorem rel_dir : ∀ (f : Nat) (T : HT) (ps : List PN),Rel T ps → (∀ p ∈ ps,p.1.length ≤ f + 1) → idT T = (dirI (f + 1) ps).1 ∧ ∀ b ∈ blocksT T,b ∈ (dirI (f + 1) ps).2:=by
  intro f
  induction f with
  | zero =>
    intro T ps hr hl
    obtain ⟨g,gd,gf,dirs,files⟩:=T
    have hd : dirs = []:=by
      rw [Rel_mk] at hr
      cases hdd : dirs with
      | nil => rfl
      | cons x l =>
        have:=(hr.2.2.1 x.1).2 (by rw [hdd]; simp)
        cases hs : subP x.1 ps with
        | nil => exact absurd hs this
        | cons r l2 =>
          obtain ⟨k,q,_,hm⟩:=subP_mem (show r ∈ subP x.1 ps by rw [hs]; simp)
          have:=hl _ hm
          simp at this
    subst hd
    exact rel_step 0 g gd gf [] files ps hr (fun x hx => absurd hx (by simp))
  | succ f ih =>
    intro T ps hr hl
    obtain ⟨g,gd,gf,dirs,files⟩:=T
    refine rel_step (f + 1) g gd gf dirs files ps hr fun x hx => ?_
    rw [Rel_mk] at hr
    refine ih x.2 _ (RelL_iff.1 hr.2.2.2.2.2 x hx) fun r hrm => ?_
    obtain ⟨k,q,h1,hm⟩:=subP_mem hrm
    have:=hl _ hm
    rw [h1]
    simp at this ⊢
    omega
where
  rel_step (f g gd gf : Nat) (dirs : List (List UInt8 × HT)) (files : List F3) (ps : List PN) (hr : Rel (.mk g gd gf dirs files) ps) (ih : ∀ x ∈ dirs,idT x.2 = (dirI f (subP x.1 ps)).1 ∧ ∀ b ∈ blocksT x.2,b ∈ (dirI f (subP x.1 ps)).2) : idT (.mk g gd gf dirs files) = (dirI (f + 1) ps).1 ∧ ∀ b ∈ blocksT (.mk g gd gf dirs files),b ∈ (dirI (f + 1) ps).2:=by
    rw [Rel_mk] at hr
    obtain ⟨h1,h2,h3,h4,h6,h5⟩:=hr
    have hfm : ∀ x ∈ files,([x.1],x.2.2) ∈ ps:=fun x hx => by
      have : (([x.1],x.2.2) : PN) ∈ files.map (fun f => (([f.1],f.2.2) : PN)):=List.mem_map_of_mem (f:=fun f => (([f.1],f.2.2) : PN)) hx
      rw [h2] at this
      exact (List.mem_filter.1 this).1
    have hnf:=(List.nodup_append.1 h4).1
    have hfil : ∀ x ∈ files,filP x.1 ps = [([x.1],x.2.2)]:=fun x hx => by
      have e : filP x.1 ps = (ps.filter oneP).filter fun p => decide (p.1 = [x.1]):=by
        rw [List.filter_filter]
        unfold filP
        congr 1
        funext p
        by_cases hp : p.1 = [x.1]
        · simp [hp,oneP]
        · simp [hp]
      rw [e,← h2,List.filter_map]
      have e2 : files.filter ((fun p : PN => decide (p.1 = [x.1])) ∘ fun f => (([f.1],f.2.2) : PN)) = [x]:=by
        clear e hfm h2 h4 h5 h6
        induction files with
        | nil => cases hx
        | cons y l ih2 =>
          rw [List.map_cons,List.nodup_cons] at hnf
          rcases List.mem_cons.1 hx with rfl | hx
          · have : l.filter ((fun p : PN => decide (p.1 = [x.1])) ∘ fun f => (([f.1],f.2.2) : PN)) = []:=by
              rw [List.filter_eq_nil_iff]
              intro z hz hc
              simp at hc
              exact hnf.1 (by rw [← hc]; exact List.mem_map_of_mem hz)
            simp only [List.filter_cons,this]
            simp
          · have hyx : ¬ y.1 = x.1:=fun h => hnf.1 (by rw [h]; exact List.mem_map_of_mem hx)
            simp only [List.filter_cons]
            simp [hyx]
            have:=ih2 hnf.2 hx
            simpa [Function.comp] using this
      rw [e2]
      rfl
    have hdj : ∀ x ∈ files,∀ y ∈ dirs,x.1 ≠ y.1:=fun x hx y hy h => (List.nodup_append.1 h4).2.2 x.1 (List.mem_map_of_mem hx) y.1 (List.mem_map_of_mem hy) h
    have hsub : ∀ x ∈ files,subP x.1 ps = []:=fun x hx => by
      cases hs : subP x.1 ps with
      | nil => rfl
      | cons r l =>
        have:=(h3 x.1).1 (by rw [hs]; simp)
        obtain ⟨y,hy,he⟩:=List.mem_map.1 this
        exact absurd he.symm (hdj x hx y hy)
    have hef : ∀ x ∈ files,entU f ps x.1 = (x.1,idF 1 x.2.2) ∧ blkU f ps x.1 = blocksF 1 x.2.2:=fun x hx => by
      unfold entU blkU
      rw [scanP_is h1,hfil x hx,hsub x hx]
      simp
    have hdne : ∀ y ∈ dirs,subP y.1 ps ≠ []:=fun y hy => (h3 y.1).2 (List.mem_map_of_mem hy)
    have hdf : ∀ y ∈ dirs,filP y.1 ps = []:=fun y hy => by
      unfold filP
      rw [List.filter_eq_nil_iff]
      intro p hp hc
      simp at hc
      have hm : p ∈ ps.filter oneP:=List.mem_filter.2 ⟨hp,by simp [oneP,hc]⟩
      rw [← h2] at hm
      obtain ⟨x,hx,rfl⟩:=List.mem_map.1 hm
      simp at hc
      exact hdj x hx y hy hc
    have hed : ∀ y ∈ dirs,entU f ps y.1 = (y.1,idT y.2) ∧ blkU f ps y.1 = (dirI f (subP y.1 ps)).2:=fun y hy => by
      have hl : (subP y.1 ps).length ≠ 0:=fun h => hdne y hy (List.length_eq_zero_iff.1 h)
      unfold entU blkU
      rw [scanP_is h1,hdf y hy]
      simp only [if_neg hl,(ih y hy).1]
      simp
    have hnm : ∀ u,u ∈ namesP ps ↔ u ∈ files.map (·.1) ∨ u ∈ dirs.map (·.1):=fun u => by
      rw [namesP_mem]
      constructor
      · rintro ⟨p,hp,rfl⟩
        obtain ⟨l,d⟩:=p
        match l,h1 _ hp with
        | [m],_ =>
          have hm : (([m],d) : PN) ∈ ps.filter oneP:=List.mem_filter.2 ⟨hp,rfl⟩
          rw [← h2] at hm
          obtain ⟨x,hx,he⟩:=List.mem_map.1 hm
          left
          have : x.1 = m:=by simpa using congrArg (fun q : PN => q.1) he
          exact List.mem_map.2 ⟨x,hx,this⟩
        | m :: k :: q,_ =>
          right
          exact (h3 m).1 (fun h => by have:=mem_subP hp; rw [h] at this; cases this)
      · rintro (h | h)
        · obtain ⟨x,hx,rfl⟩:=List.mem_map.1 h
          exact ⟨_,hfm x hx,rfl⟩
        · have:=(h3 u).2 h
          cases hs : subP u ps with
          | nil => exact absurd hs this
          | cons r l =>
            obtain ⟨k,q,_,hm⟩:=subP_mem (show r ∈ subP u ps by rw [hs]; simp)
            exact ⟨_,hm,rfl⟩
    have hents : sortN (fileEs files ++ entsD dirs) = entsU f ps:=by
      refine sortN_ext (sortN_sort ?_) ?_ fun e => ?_
      · rw [List.map_append,entsD_map,fileEs,List.map_map,List.map_map]
        exact h4
      · unfold entsU
        show ((namesP ps).map (entU f ps)).Pairwise _
        rw [List.pairwise_map]
        exact (namesP_sort ps).imp fun h => h
      · rw [(sortN_perm _).mem_iff,List.mem_append,entsD_map]
        unfold fileEs entsU
        simp only [List.mem_map]
        constructor
        · rintro (⟨x,hx,rfl⟩ | ⟨y,hy,rfl⟩)
          · exact ⟨x.1,(hnm _).2 (.inl (List.mem_map_of_mem hx)),(hef x hx).1⟩
          · exact ⟨y.1,(hnm _).2 (.inr (List.mem_map_of_mem hy)),(hed y hy).1⟩
        · rintro ⟨u,hu,rfl⟩
          rcases (hnm u).1 hu with h | h
          · obtain ⟨x,hx,rfl⟩:=List.mem_map.1 h
            exact .inl ⟨x,hx,(hef x hx).1.symm⟩
          · obtain ⟨y,hy,rfl⟩:=List.mem_map.1 h
            exact .inr ⟨y,hy,(hed y hy).1.symm⟩
    rw [idT,blocksT,dirI_succ,hents]
    refine ⟨rfl,fun b hb => ?_⟩
    rcases List.mem_append.1 hb with hb | hb
    · refine List.mem_append.2 (.inl ?_)
      unfold blksU
      rw [List.mem_flatten]
      rcases List.mem_append.1 hb with hb | hb
      · unfold fileBs at hb
        rw [List.mem_flatten] at hb
        obtain ⟨l,hl,hbl⟩:=hb
        obtain ⟨x,hx,rfl⟩:=List.mem_map.1 hl
        exact ⟨blkU f ps x.1,List.mem_map_of_mem ((hnm _).2 (.inl (List.mem_map_of_mem hx))),by rw [(hef x hx).2]; exact hbl⟩
      · rw [blocksDs_map,List.mem_flatten] at hb
        obtain ⟨l,hl,hbl⟩:=hb
        obtain ⟨y,hy,rfl⟩:=List.mem_map.1 hl
        exact ⟨blkU f ps y.1,List.mem_map_of_mem ((hnm _).2 (.inr (List.mem_map_of_mem hy))),by rw [(hed y hy).2]; exact (ih y hy).2 b hbl⟩
    · exact List.mem_append.2 (.inr hb)
open Go.RowKit
theorem sub_len {α : Type} : ∀ {l m : List α},l.Nodup → (∀ x ∈ l,x ∈ m) → l.length ≤ m.length
  | [],m,_,_ => Nat.zero_le _
  | x :: l,m,hn,hs => by
    obtain ⟨a,b,rfl⟩:=List.append_of_mem (hs x (by simp))
    rw [List.nodup_cons] at hn
    have:=sub_len (l:=l) (m:=a ++ b) hn.2 fun y hy => by
      rcases List.mem_append.1 (hs y (by simp [hy])) with h | h
      · simp [h]
      · rcases List.mem_cons.1 h with rfl | h
        · exact absurd hy hn.1
        · simp [h]
    simp only [List.length_cons,List.length_append] at this ⊢
    omega
theorem innerR_lem {l : List (List UInt8)} (hl : Ids l) : (innerR l).length ≤ 1000:=by
  unfold innerR
  split
  · rename_i h
    have h8 : l.length ≤ 8:=by
      unfold innerE at h
      split at h
      · omega
      · split at h
        · omega
        · omega
    unfold innerTo
    rw [List.take_length,List.length_append,flat_ids hl]
    simp
    omega
  · simp
theorem above_small_b : ∀ (f : Nat) (l : List (List UInt8)),Ids l → ∀ b ∈ (above f l).1,b.length ≤ 1000
  | 0,l,_,b,hb => by rw [above] at hb; cases hb
  | f + 1,l,hl,b,hb => by
    by_cases h1 : 1 < l.length
    · rw [above_big h1] at hb
      rcases List.mem_append.1 hb with hb | hb
      · unfold rowsI at hb
        obtain ⟨j,_,rfl⟩:=List.mem_map.1 hb
        exact innerR_lem fun x hx => hl x (List.mem_of_mem_drop (List.mem_of_mem_take hx))
      · exact above_small_b f _ (ids_sha _) b hb
    · rw [above_small h1] at hb
      cases hb
theorem above_ids : ∀ (f : Nat) (l : List (List UInt8)),Ids l → Ids (above f l).2.2
  | 0,l,h => h
  | f + 1,l,h => by
    by_cases hb : 1 < l.length
    · rw [above_big hb]; exact above_ids f _ (ids_sha _)
    · rw [above_small hb]; exact h
theorem topF_len32 (d : List UInt8) : (topF d).length = 32:=by
  have h:=above_ids (d.length + 1) ((rowsD d).map sha) (ids_sha _)
  unfold topF aboveD
  cases ht : (above (d.length + 1) ((rowsD d).map sha)).2.2 with
  | nil => exact zeroId_length
  | cons x r => rw [ht] at h; exact h x (by simp)
theorem blocksF_small {k : Int} {d b : List UInt8} (hb : b ∈ blocksF k d) : b.length ≤ 1000:=by
  unfold blocksF at hb
  rcases List.mem_append.1 hb with hb | hb
  · rcases List.mem_append.1 hb with hb | hb
    · unfold rowsD at hb
      obtain ⟨j,_,rfl⟩:=List.mem_map.1 hb
      unfold blkD
      rw [List.length_cons,List.length_take]
      omega
    · exact above_small_b _ _ (ids_sha _) b hb
  · rw [List.mem_singleton.1 hb]
    have:=inodeR_len k (d.length : Int) ((aboveD d).2.1 : Int) (topF d) (by rw [topF_len32])
    unfold nodeF
    omega
mutual
theorem blocksT_small : ∀ (T : HT) (b : List UInt8),b ∈ blocksT T → b.length ≤ 1000
  | .mk _ _ _ dirs files,b,hb => by
    rw [blocksT] at hb
    rcases List.mem_append.1 hb with hb | hb
    · rcases List.mem_append.1 hb with hb | hb
      · unfold fileBs at hb
        rw [List.mem_flatten] at hb
        obtain ⟨l,hl,hbl⟩:=hb
        obtain ⟨x,_,rfl⟩:=List.mem_map.1 hl
        exact blocksF_small hbl
      · exact blocksDs_small dirs b hb
    · exact blocksF_small hb
theorem blocksDs_small : ∀ (ds : List (List UInt8 × HT)) (b : List UInt8),b ∈ blocksDs ds → b.length ≤ 1000
  | [],b,hb => by rw [blocksDs] at hb; cases hb
  | d :: ds,b,hb => by
    rw [blocksDs] at hb
    rcases List.mem_append.1 hb with hb | hb
    · exact blocksT_small d.2 b hb
    · exact blocksDs_small ds b hb
end
theorem buildE_wrong {xs : List F3} (h : buildE xs = 0) : xs.length ≤ 20 ∧ ∀ x ∈ xs,wrongI x.1 x.2.2 = 0:=by
  unfold buildE at h
  split at h
  · cases h
  · split at h
    · rename_i h1 h2; exact absurd h h2
    · rename_i h1 h2
      exact ⟨by omega,firstW_zero (by cases hh : decide (firstW xs = 0) with
        | true => exact of_decide_eq_true hh
        | false => exact absurd (of_decide_eq_false hh) h2)⟩
theorem parts_ok {xs : List F3} (h : buildE xs = 0) : (partsN xs).length ≤ 20 ∧ (∀ p ∈ partsN xs,p.2.length ≤ 1000 ∧ p.1.length ≤ 5):=by
  obtain ⟨h1,h2⟩:=buildE_wrong h
  refine ⟨by unfold partsN; rw [List.length_map]; exact h1,fun p hp => ?_⟩
  unfold partsN at hp
  obtain ⟨x,hx,rfl⟩:=List.mem_map.1 hp
  obtain ⟨h3,_,h5⟩:=wrongI_zero (h2 x hx)
  exact ⟨h5,splitN_five h3⟩
theorem tree_len {xs : List F3} {T : HT} (hf : Filled xs T) (h : buildE xs = 0) {l : List TB} (ht : TreeOf (blocksT T) l) : l.length ≤ bnd 5:=by
  obtain ⟨h1,h2⟩:=parts_ok h
  have hr:=rel_dir 4 T _ hf.rel (fun p hp => (h2 p hp).2)
  have hn : (l.map (·.1)).Nodup:=by
    have:=ht.sorted
    refine List.Pairwise.map _ (fun a b hab => ?_) this
    intro hc
    rw [hc,ltK_irrefl] at hab
    cases hab
  have hl:=sub_len (m:=(dirI 5 (partsN xs)).2.map sha) hn fun k hk => by
    obtain ⟨p,hp,rfl⟩:=List.mem_map.1 hk
    obtain ⟨h3,h4,_⟩:=ht.from_ p hp
    rw [h3]
    exact List.mem_map_of_mem (hr.2 _ h4)
  rw [List.length_map,List.length_map] at hl
  exact Nat.le_trans hl (dirI_le 5 _ h1 fun p hp => by have:=(h2 p hp).1; omega)
theorem tree_small {xs : List F3} {T : HT} (hf : Filled xs T) (h : buildE xs = 0) (hxl : xs.length ≤ 20) (hxs : Short3 xs) {l : List TB} (ht : TreeOf (blocksT T) l) {es : List EB} (he : es.map toTB = l) : es.length ≤ 1000000000000 ∧ ∀ b ∈ es,b.2.length ≤ 1000000000:=by
  refine ⟨?_,fun b hb => ?_⟩
  · have h1:=tree_len hf h ht
    have h2:=congrArg List.length he
    rw [List.length_map] at h2
    have h3 : bnd 5 ≤ 1000000000000:=by decide
    omega
  · have : toTB b ∈ l:=by rw [← he]; exact List.mem_map_of_mem hb
    have h3:=(ht.from_ _ this).2.1
    have:=blocksT_small T _ h3
    show (toTB b).2.1.length ≤ _
    omega
end Go.Proofs.YthkdkmaacjpneaaGreatDoor
/- What the program says of one more type of elements. -/
namespace Go.Proofs.YthkdkmaacjpneaaGreatDoor.TI
theorem hi97 : Tryz.prog.info? 97 = some Tryz.t97:=by kernel_rfl
theorem hz97 : Tryz.t97.zero = some (.agg #[.slice none 0 0,.int .i64 0,.int .u8 0]):=by kernel_rfl
theorem hs97 : Tryz.t97.size = 3:=by kernel_rfl
theorem hby97 : Tryz.t97.bytes = 40:=by kernel_rfl
theorem hzs97 : (.agg #[.slice none 0 0,.int .i64 0,.int .u8 0] : Value).cells.size = 3:=by kernel_rfl
end Go.Proofs.YthkdkmaacjpneaaGreatDoor.TI
/- Trees: TreeDiffs. -/
namespace Go.Proofs.YthkdkmaacjpneaaGreatDoor
open Go.RowKit
set_option maxRecDepth 8000
theorem row_fv {e : TypeId} {v : Value} {n : Nat} {ys : List Value} {fs gs : List FV} {h : Hlt} (hp : rowP e 3 v n (ys ++ recC fileC gs) h) (hn : n = fs.length + gs.length) (hy : ys = recC fileC fs) : rowR fileC 3 e v (fs ++ gs) h:=by
  subst hn; subst hy
  unfold rowR
  rw [List.length_append,recC_append]
  exact hp
theorem fvs_ones {fs : List FV} (h : ∀ f ∈ fs,f.2.1.oneCell' = true) : ∀ u ∈ recC fileC fs,u.oneCell' = true:=by
  intro u hu
  unfold recC at hu
  obtain ⟨l,hl,hu⟩:=List.mem_flatten.1 hu
  obtain ⟨f,hf,rfl⟩:=List.mem_map.1 hl
  simp [fileC] at hu
  rcases hu with rfl | rfl | rfl
  · exact h f hf
  · rfl
  · rfl
def DiffI (es3 esb esa : List EB) (i n : Nat) : Prop:=(es3.map toTB).drop n = freshT ((esb.map toTB).drop i) (esa.map toTB)
theorem freshT_cons (b : TB) (l o : List TB) : freshT (b :: l) o = (if b.1 ∈ o.map (·.1) then [] else [b]) ++ freshT l o:=by
  unfold freshT
  rw [List.filter_cons]
  by_cases h : b.1 ∈ o.map (·.1) <;> simp [h]
section
variable {es3 esb esa : List EB} {i n : Nat} {b e : EB}
theorem diff_drop (hb : esb[i]? = some b) : (esb.map toTB).drop i = toTB b :: (esb.map toTB).drop (i + 1):=by
  obtain ⟨hk,he⟩:=List.getElem?_eq_some_iff.1 hb
  rw [List.drop_eq_getElem_cons (by rw [List.length_map]; exact hk),List.getElem_map,he]
theorem diff_old (h : DiffI es3 esb esa i n) (hb : esb[i]? = some b) (hm : b.1.key ∈ keysE esa) : DiffI es3 esb esa (i + 1) n:=by
  unfold DiffI at h ⊢
  rw [h,diff_drop hb,freshT_cons,if_pos (by rw [keysE_TB]; exact hm),List.nil_append]
theorem diff_new (h : DiffI es3 esb esa i n) (hb : esb[i]? = some b) (hm : b.1.key ∉ keysE esa) : n < es3.length ∧ (∀ e,es3[n]? = some e → e.1.key = b.1.key) ∧ DiffI es3 esb esa (i + 1) (n + 1):=by
  unfold DiffI at h ⊢
  rw [diff_drop hb,freshT_cons,if_neg (by rw [keysE_TB]; exact hm),List.singleton_append] at h
  have hn : n < es3.length:=by
    refine Classical.byContradiction fun hc => ?_
    rw [List.drop_of_length_le (by rw [List.length_map]; omega)] at h
    cases h
  have h2:=h
  rw [List.drop_eq_getElem_cons (by rw [List.length_map]; exact hn)] at h2
  injection h2 with h3 h4
  refine ⟨hn,fun e he => ?_,h4⟩
  rw [List.getElem_map] at h3
  have : es3[n] = e:=(List.getElem?_eq_some_iff.1 he).2
  rw [this] at h3
  exact congrArg (fun t : TB => t.1) h3
theorem diff_ne (h : DiffI es3 esb esa i n) (he : es3[n]? = some e) : e.1.key ∉ keysE esa:=by
  have hm : toTB e ∈ (es3.map toTB).drop n:=by
    obtain ⟨hk,hee⟩:=List.getElem?_eq_some_iff.1 he
    rw [List.drop_eq_getElem_cons (by rw [List.length_map]; exact hk),List.getElem_map,hee]
    exact List.mem_cons_self
  unfold DiffI at h
  rw [h] at hm
  unfold freshT at hm
  have:=(List.mem_filter.1 hm).2
  rw [decide_eq_true_eq,keysE_TB] at this
  exact this
theorem diff_is (h : DiffI es3 esb esa i n) (hb : esb[i]? = some b) (he : es3[n]? = some e) : (e.1.key == b.1.key) = !decide (b.1.key ∈ keysE esa):=by
  by_cases hm : b.1.key ∈ keysE esa
  · have h1:=diff_ne h he
    have : ¬ e.1.key = b.1.key:=fun hc => h1 (by rw [hc]; exact hm)
    simp [hm,this]
  · have h1:=(diff_new h hb hm).2.1 e he
    simp [hm,h1]
theorem diff_no (h : DiffI es3 esb esa i n) (hb : esb[i]? = some b) (hn : ¬ n < es3.length) : b.1.key ∈ keysE esa:=Classical.byContradiction fun hm => hn (diff_new h hb hm).1
theorem diff_end (h : DiffI es3 esb esa i n) (hi : esb.length ≤ i) : es3.length ≤ n:=by
  unfold DiffI at h
  rw [List.drop_of_length_le (l:=esb.map toTB) (i:=i) (by rw [List.length_map]; exact hi)] at h
  have h2:=congrArg List.length h
  rw [List.length_drop,List.length_map] at h2
  simp [freshT] at h2
  omega
theorem old_next {y : Bool} {k : Nat} {a : EB} (hy : y = decide (b.1.key ∈ keysE (esa.take k))) (ha : esa[k]? = some a) : decide (b.1.key ∈ keysE (esa.take (k + 1))) = (y || (a.1.key == b.1.key)):=by
  rw [keysE_next ha,hy]
  by_cases h1 : b.1.key ∈ keysE (esa.take k) <;> by_cases h2 : a.1.key = b.1.key
  · simp [h1,h2]
  · simp [h1,h2]
  · simp [h1,h2]
  · have h3 : ¬ b.1.key = a.1.key:=fun h => h2 h.symm
    simp [h1,h2,h3]
end
set_option maxHeartbeats 2000000 in
theorem diffs_spec (v : Value) (fs : List FV) (hfl : fs.length ≤ 1048576) (w : Value) (ms : List FV) (hml : ms.length ≤ 1048576) (F : HP) (hF : ∀ h,F h → rdFV v fs h) (hN : ∀ h,F h → datFV fs h) (hF2 : ∀ h,F h → rdFV w ms h) (hN2 : ∀ h,F h → datFV ms h) (hT : ∀ h,F h → tabsP h) : CallsS Tryz.prog 7 #[v,w] F [] (fun r Ps => r = .bool true ∧ Ps = []):=by
 refine callsS_enter Tryz.func7 rfl Tryz.ntmps7 (by simp) (fun E => ?_)
 refine Q9 ?_
 refine J9 [(0,_),(1,_)] [(0,_)] ?_ ⟨rfl,rfl,trivial⟩ ⟨rfl,trivial⟩
 refine R9 (G9 rfl rfl rfl (N9 (X9 ?_)))
 refine Q9 ?_
 refine Q9 ?_
 refine J9 [(0,_),(1,_),(4,_)] [(0,_)] ?_ ⟨rfl,rfl,rfl,trivial⟩ ⟨rfl,trivial⟩
 refine R9 (Lc9 rfl rfl (by decide) (Oc9 200 [0] [] rfl Tryz.call13 rfl rfl rfl (by decide) (by decide) (known10_spec _ (ts9 0 rfl hT)) (fun v15 Ps15 hR15 => ?_)))
 obtain ⟨rfl,rfl⟩:=hR15
 refine (L9 rfl rfl (Pu_un rfl rfl (run_not _)) (N9 (X9 ?_)))
 refine W_false rfl (rfl) ?_
 refine K9 (X9 ?_)
 refine Q9 ?_
 refine J9 [(0,_),(1,_),(4,_),(16,_)] [(0,_)] ?_ ⟨rfl,rfl,rfl,rfl,trivial⟩ ⟨rfl,trivial⟩
 refine R9 (M9 rfl rfl rfl (Lc9 rfl rfl (by decide) (Oc9 300 [0] [] rfl Tryz.call14 rfl rfl rfl (by decide) (by decide) (good_spec v fs _ (rs9 0 rfl hF) (datFV_star 0 rfl hN)) (fun v19 Ps19 hR19 => ?_))))
 obtain ⟨xa,hxba,hxla,hxsa,rfl⟩:=hR19
 skip
 refine (Lc9 rfl rfl (by decide) (Oc9 400 [0,300] [] rfl Tryz.call16 rfl rfl rfl (by decide) (by decide) (build_spec v19 xa (by omega) (short_big hxsa) _ (rs9 1 rfl (fun _ hp => itP_rd hp)) (datI_star 1 rfl (fun _ hp => itP_dat hp)) (ts9 0 rfl hT)) (fun v20 Ps20 hR20 => ?_)))
 obtain ⟨wa,ida,la,rfl,rfl,hida,_,hgooda⟩:=hR20
 refine WL_fact (r:=400) rfl (fun h hp => treeP_one hp) (fun (hvoa : wa.oneCell' = true) => ?_)
 rw [hxba]
 refine (M9 rfl rfl rfl (L9 rfl rfl (Pe9 rfl rfl rfl) (L9 rfl rfl (Pe9 rfl rfl rfl) (Lc9 rfl rfl (by decide) (OpT_alloc (r:=401) (cs:=(treeC (.slice none 0 0) zeroId)) rfl (zero_run (by kernel_rfl : (Tryz.prog.info? 31).bind (·.zero) = some (.agg (treeC (.slice none 0 0) zeroId).toArray))) rfl (fun g401 => (Lc09 rfl rfl (OpT_storeAll (r:=401) rfl Tryz.sizeOf31 rfl rfl rfl (treeC_length zeroId_length) (treeC_length hida) (treeC_one hvoa) ?_))))))))
 refine (G9 rfl rfl rfl (N9 (X9 ?_)))
 refine Q9 ?_
 refine J9 [(0,_),(1,_),(4,_),(5,_),(6,_),(16,_)] [(0,_),(300,_),(400,_),(401,_)] ?_ ⟨rfl,rfl,rfl,rfl,rfl,rfl,trivial⟩ ⟨rfl,rfl,rfl,rfl,trivial⟩
 refine W_openTree 400 700 rfl (fun esa hesa => ?_)
 obtain ⟨Ta,hfa,hida2,hta⟩:=hgooda hxba
 obtain ⟨hla,hda⟩:=tree_small hfa hxba hxla hxsa hta hesa
 refine W_fact (r:=0) rfl (fun h hp f hf => rd_one (hN h hp f hf)) (fun (hone : ∀ f ∈ fs,f.2.1.oneCell' = true) => ?_)
 refine W_fact (r:=0) rfl (fun h hp f hf => rd_one (hN2 h hp f hf)) (fun (hone2 : ∀ f ∈ ms,f.2.1.oneCell' = true) => ?_)
 refine R9 (Lc9 rfl rfl (by decide) (OpT_buildRows (r:=751) [] rfl rfl Tryz.runUnderlying22 Tryz.sizeOf97 Tryz.zeroValue97 rfl (by decide) rfl (by decide) (by intro r hr; simp at hr) rfl (fun v24 => ?_)))
 refine Lt9 (P':=rowR fileC 3 97 v24 []) (r:=751) rfl (fun h hp => hp) ?_
 refine (M9 rfl rfl rfl (Lc9 rfl rfl (by decide) (Oa9 (r:=751) (r2:=0) rfl Tryz.underlying22 TI.hi97 TI.hz97 TI.hs97 TI.hby97 TI.hzs97 (by decide) rfl rfl rfl rfl hF (fvs_ones hone) (by unfold maxLen; rw [List.length_nil]; omega) (by rw [List.length_nil]; omega) (fun v26 => ?_))))
 refine Lt9 (P':=rowR fileC 3 97 v26 ([] ++ fs)) (r:=751) rfl (fun h hp => row_fv hp (by rw [List.length_nil]) rfl) ?_
 refine (M9 rfl rfl rfl (Lc9 rfl rfl (by decide) (Oa9 (r:=751) (r2:=0) rfl Tryz.underlying22 TI.hi97 TI.hz97 TI.hs97 TI.hby97 TI.hzs97 (by decide) rfl rfl rfl rfl hF2 (fvs_ones hone2) (by unfold maxLen; rw [List.nil_append]; omega) (by rw [List.nil_append]; omega) (fun v28 => ?_))))
 refine Lt9 (P':=rowR fileC 3 97 v28 (fs ++ ms)) (r:=751) rfl (fun h hp => row_fv hp (by rw [List.nil_append]) rfl) ?_
 refine (Lc9 rfl rfl (by decide) (Oc9 800 [0,300,401,700,701,751] [] rfl Tryz.call14 rfl rfl rfl (by decide) (by decide) (good_spec v28 (fs ++ ms) _ (rs9 5 rfl rowR_rd) (datFV_star 0 rfl (fun h hp f hf => (List.mem_append.1 hf).elim (hN h hp f) (hN2 h hp f)))) (fun v29 Ps29 hR29 => ?_)))
 obtain ⟨xb,hxbb,hxlb,hxsb,rfl⟩:=hR29
 skip
 refine (Lc9 rfl rfl (by decide) (Oc9 900 [0,300,401,700,701,751,800] [] rfl Tryz.call16 rfl rfl rfl (by decide) (by decide) (build_spec v29 xb (by omega) (short_big hxsb) _ (rs9 6 rfl (fun _ hp => itP_rd hp)) (datI_star 6 rfl (fun _ hp => itP_dat hp)) (ts9 0 rfl hT)) (fun v30 Ps30 hR30 => ?_)))
 obtain ⟨wb,idb,lb,rfl,rfl,hidb,_,hgoodb⟩:=hR30
 refine WL_fact (r:=900) rfl (fun h hp => treeP_one hp) (fun (hvob : wb.oneCell' = true) => ?_)
 rw [hxbb]
 refine (M9 rfl rfl rfl (L9 rfl rfl (Pe9 rfl rfl rfl) (L9 rfl rfl (Pe9 rfl rfl rfl) (Lc9 rfl rfl (by decide) (OpT_alloc (r:=901) (cs:=(treeC (.slice none 0 0) zeroId)) rfl (zero_run (by kernel_rfl : (Tryz.prog.info? 31).bind (·.zero) = some (.agg (treeC (.slice none 0 0) zeroId).toArray))) rfl (fun g901 => (Lc09 rfl rfl (OpT_storeAll (r:=901) rfl Tryz.sizeOf31 rfl rfl rfl (treeC_length zeroId_length) (treeC_length hidb) (treeC_one hvob) ?_))))))))
 refine (G9 rfl rfl rfl (N9 (X9 ?_)))
 refine Q9 ?_
 refine Q9 ?_
 refine J9 [(0,_),(1,_),(4,_),(5,_),(6,_),(7,_),(8,_),(16,_)] [(0,_),(300,_),(401,_),(700,_),(701,_),(751,_),(800,_),(900,_),(901,_)] ?_ ⟨rfl,rfl,rfl,rfl,rfl,rfl,rfl,rfl,trivial⟩ ⟨rfl,rfl,rfl,rfl,rfl,rfl,rfl,rfl,rfl,trivial⟩
 refine W_openTree 900 2000 rfl (fun esb hesb => ?_)
 obtain ⟨Tb,hfb,hidb2,htb⟩:=hgoodb hxbb
 obtain ⟨hlb,hdb⟩:=tree_small hfb hxbb hxlb hxsb htb hesb
 refine R9 (M9 rfl rfl rfl (L9 rfl rfl (Pn9 rfl rfl rfl (run_neq _ _ _ _ _ _)) (M9 rfl rfl rfl (WL_gPT rfl rfl rfl rfl rfl (by decide) (Pm9 rfl rfl) (WL_gPT rfl rfl rfl rfl rfl (by decide) (Pn9 rfl rfl rfl (run_neq _ _ _ _ _ _)) (L9 rfl rfl (Pu_pickF rfl rfl rfl rfl) (N9 (X9 ?_))))))))
 refine W_false rfl (rfl) ?_
 refine K9 (X9 ?_)
 refine Q9 ?_
 refine J9 [(0,_),(1,_),(4,_),(5,_),(6,_),(7,_),(8,_),(16,_),(38,_)] [(0,_),(300,_),(401,_),(700,_),(701,_),(751,_),(800,_),(901,_),(2000,_),(2001,_)] ?_ ⟨rfl,rfl,rfl,rfl,rfl,rfl,rfl,rfl,rfl,trivial⟩ ⟨rfl,rfl,rfl,rfl,rfl,rfl,rfl,rfl,rfl,rfl,trivial⟩
 refine R9 (L9 rfl rfl (Px9 (r:=901) rfl Tryz.isAgg31 Tryz.sizeOf31 rfl rfl (treeC_length hidb) (load_all (treeC_length hidb))) (L9 rfl rfl (Px9 (r:=401) rfl Tryz.isAgg31 Tryz.sizeOf31 rfl rfl (treeC_length hida) (load_all (treeC_length hida))) (Lc9 rfl rfl (by decide) (Oc9 2100 [0,300,401,700,701,751,800,901,2000,2001] [] rfl Tryz.call23 rfl rfl rfl (by decide) (by decide) (fresh_spec wb wa esb esa idb ida hlb hla hdb _ (rs9 8 rfl (fun _ h => rp9 h)) (ds9 9 rfl (fun _ h => h)) (rs9 3 rfl (fun _ h => rp9 h))) (fun v41 Ps41 hR41 => ?_)))))
 subst hR41
 skip
 refine (G9 rfl rfl rfl (N9 (X9 ?_)))
 refine Q9 ?_
 refine J9 [(0,_),(1,_),(4,_),(5,_),(6,_),(7,_),(8,_),(9,_),(16,_),(38,_)] [(0,_),(300,_),(401,_),(700,_),(701,_),(751,_),(800,_),(901,_),(2000,_),(2001,_),(2100,_)] ?_ ⟨rfl,rfl,rfl,rfl,rfl,rfl,rfl,rfl,rfl,rfl,trivial⟩ ⟨rfl,rfl,rfl,rfl,rfl,rfl,rfl,rfl,rfl,rfl,rfl,trivial⟩
 refine W_openTree 2100 3000 rfl (fun es3 hes3 => ?_)
 have hd0 : DiffI es3 esb esa 0 0:=hes3
 have hl3 : es3.length ≤ 1000000000000:=by have h1:=congrArg List.length hes3; rw [List.length_map] at h1; have h2 : (freshT (esb.map toTB) (esa.map toTB)).length ≤ (esb.map toTB).length:=List.length_filter_le _ _; rw [List.length_map] at h2; omega
 refine R9 (G9 rfl rfl rfl (N9 (X9 ?_)))
 refine Q9 ?_
 refine Q9 ?_
 refine J9 [(0,_),(1,_),(4,_),(5,_),(6,_),(7,_),(8,_),(9,_),(10,_),(16,_),(38,_)] [(0,_),(300,_),(401,_),(700,_),(701,_),(751,_),(800,_),(901,_),(2000,_),(2001,_),(3000,_),(3001,_)] ?_ ⟨rfl,rfl,rfl,rfl,rfl,rfl,rfl,rfl,rfl,rfl,rfl,trivial⟩ ⟨rfl,rfl,rfl,rfl,rfl,rfl,rfl,rfl,rfl,rfl,rfl,rfl,trivial⟩
 refine R9 (G9 rfl rfl rfl (N9 (X9 ?_)))
 refine W_block ?_
 refine W_loop (α:=Nat × Nat) (fun x => [(5,.pointer (some ⟨g401,0,none⟩)),(7,.pointer (some ⟨g901,0,none⟩)),(9,v41),(10,.int .i64 (x.2 : Int)),(11,.int .i64 (x.1 : Int))]) (fun x => [(0,F),(700,rowP 59 35 wa esa.length (recC bvC (esa.map (fun p : EB => p.1)))),(2000,rowP 59 35 wb esb.length (recC bvC (esb.map (fun p : EB => p.1)))),(3000,rowP 59 35 v41 es3.length (recC bvC (es3.map (fun p : EB => p.1)))),(401,blk g401 31 (treeC wa ida)),(901,blk g901 31 (treeC wb idb))]) (fun x => x.1 ≤ esb.length ∧ x.2 ≤ es3.length ∧ DiffI es3 esb esa x.1 x.2) (fun x => esb.length - x.1) ((0,0)) ⟨Nat.zero_le _,Nat.zero_le _,hd0⟩ (a9 rfl) (a9 rfl) (fun x hx => ?_)
 obtain ⟨hx1,hx2,hx3⟩:=hx
 refine Q9 ?_
 refine Q9 ?_
 refine J9 [(5,_),(7,_),(9,_),(10,_),(11,_)] [(0,_),(401,_),(700,_),(901,_),(2000,_),(3000,_)] ?_ ⟨rfl,rfl,rfl,rfl,rfl,trivial⟩ ⟨rfl,rfl,rfl,rfl,rfl,rfl,trivial⟩
 refine R9 (M9 rfl rfl rfl (L9 rfl rfl (Pf9 (off:=0) rfl rfl (by kernel_rfl)) (L9 rfl rfl (Pb9 (r:=901) rfl Tryz.isAgg27 rfl rfl rfl) (L9 rfl rfl (Pl9 (r:=2000) rfl Tryz.runUnderlying27 rfl rfl (fun _ h => rp9 h)) (L9 rfl rfl (Pn9 rfl rfl rfl (run_lss _ _ _ _ _ _)) (N9 (X9 ?_)))))))
 refine C9 rfl (fun hc46 => ?_) (fun hc46 => ?_)
 ·
  have hlt : x.1 < esb.length:=by have:=of_decide_eq_true hc46; omega
  obtain ⟨b,hb⟩ : ∃ b,esb[x.1]? = some b:=⟨_,List.getElem?_eq_getElem hlt⟩
  refine K9 (X9 ?_)
  refine Q9 ?_
  refine W_block ?_
  refine Q9 ?_
  refine J9 [(5,_),(7,_),(9,_),(10,_),(11,_),(46,_)] [(0,_),(401,_),(700,_),(901,_),(2000,_),(3000,_)] ?_ ⟨rfl,rfl,rfl,rfl,rfl,rfl,trivial⟩ ⟨rfl,rfl,rfl,rfl,rfl,rfl,trivial⟩
  rcases Bool.eq_false_or_eq_true (decide (x.2 < es3.length)) with hsp12 | hsp12
  ·
   have hn3:=of_decide_eq_true hsp12
   obtain ⟨e,he⟩ : ∃ e,es3[x.2]? = some e:=⟨_,List.getElem?_eq_getElem hn3⟩
   have hg : decide ((x.2 : Int) < (es3.length : Int)) = true:=decide_eq_true (by omega)
   refine W_draw (N:=19) (by kernel_rfl) rfl [(0,_),(401,_),(901,_),(2000,_),(3000,_)] ⟨rfl,rfl,rfl,rfl,rfl,trivial⟩ ?_
   refine (T9 0 rfl (by kernel_rfl) rfl rfl (Pm9 rfl rfl) (T9 1 rfl (by kernel_rfl) rfl rfl (Pm9 rfl rfl) (T9 2 rfl (by kernel_rfl) rfl rfl (Pl9 (r:=3000) rfl Tryz.runUnderlying27 rfl rfl (fun _ h => rp9 h)) (T9 3 rfl (by kernel_rfl) rfl rfl (Pn9 rfl rfl rfl (run_lss _ _ _ _ _ _)) (T9 4 rfl (by kernel_rfl) rfl rfl (Pm9 rfl rfl) (AH_takeT 5 rfl (by kernel_rfl) (by kernel_rfl) (by kernel_rfl) rfl rfl rfl (by rw [hg]; rfl) rfl (by decide) (Pm9 rfl rfl) (AH_takeT 6 rfl (by kernel_rfl) (by kernel_rfl) (by kernel_rfl) rfl rfl rfl (by rw [hg]; rfl) rfl (by decide) (Pm9 rfl rfl) (AH_takeT 7 rfl (by kernel_rfl) (by kernel_rfl) (by kernel_rfl) rfl rfl rfl (by rw [hg]; rfl) rfl (by decide) (Pi9 (r:=3000) rfl Tryz.runUnderlying27 Tryz.sizeOf59 rfl rfl rfl (fun _ h => rp9 h) (by omega)) (AH_takeT 8 rfl (by kernel_rfl) (by kernel_rfl) (by kernel_rfl) rfl rfl rfl (by rw [hg]; rfl) rfl (by decide) (Pu_fieldAddrE (off:=0) rfl rfl (by kernel_rfl)) (AH_takeT 9 rfl (by kernel_rfl) (by kernel_rfl) (by kernel_rfl) rfl rfl rfl (by rw [hg]; rfl) rfl (by decide) (Pz9 (r:=3000) rfl Tryz.isAgg29 Tryz.sizeOf29 rfl rfl (fun _ h => rp9 h) ((bs_length _).trans e.1.len) (by decide) (eb_key (k:=x.2) he)) (AH_takeT 10 rfl (by kernel_rfl) (by kernel_rfl) (by kernel_rfl) rfl rfl rfl (by rw [hg]; rfl) rfl (by decide) (Pf9 (off:=0) rfl rfl (by kernel_rfl)) (AH_takeT 11 rfl (by kernel_rfl) (by kernel_rfl) (by kernel_rfl) rfl rfl rfl (by rw [hg]; rfl) rfl (by decide) (Pb9 (r:=901) rfl Tryz.isAgg27 rfl rfl rfl) (AH_takeT 12 rfl (by kernel_rfl) (by kernel_rfl) (by kernel_rfl) rfl rfl rfl (by rw [hg]; rfl) rfl (by decide) (Pm9 rfl rfl) (AH_takeT 13 rfl (by kernel_rfl) (by kernel_rfl) (by kernel_rfl) rfl rfl rfl (by rw [hg]; rfl) rfl (by decide) (Pi9 (r:=2000) rfl Tryz.runUnderlying27 Tryz.sizeOf59 rfl rfl rfl (fun _ h => rp9 h) (by omega)) (AH_takeT 14 rfl (by kernel_rfl) (by kernel_rfl) (by kernel_rfl) rfl rfl rfl (by rw [hg]; rfl) rfl (by decide) (Pu_fieldAddrE (off:=0) rfl rfl (by kernel_rfl)) (AH_takeT 15 rfl (by kernel_rfl) (by kernel_rfl) (by kernel_rfl) rfl rfl rfl (by rw [hg]; rfl) rfl (by decide) (Pz9 (r:=2000) rfl Tryz.isAgg29 Tryz.sizeOf29 rfl rfl (fun _ h => rp9 h) ((bs_length _).trans b.1.len) (by decide) (eb_key (k:=x.1) hb)) (AH_takeT 16 rfl (by kernel_rfl) (by kernel_rfl) (by kernel_rfl) rfl rfl rfl (by rw [hg]; rfl) rfl (by decide) (Pn9 rfl rfl rfl (run_idEq _ _ e.1.len b.1.len _ _)) (T9 17 rfl (by kernel_rfl) rfl rfl (Pu_pickT rfl rfl hg rfl) (T9 18 rfl (by kernel_rfl) rfl rfl (Pg9 rfl rfl) (Ad9 (by kernel_rfl) (X9 ?_)))))))))))))))))))))
   refine Q9 ?_
   refine J9 [(5,_),(7,_),(9,_),(10,_),(11,_),(12,_),(46,_)] [(0,_),(401,_),(700,_),(901,_),(2000,_),(3000,_)] ?_ ⟨rfl,rfl,rfl,rfl,rfl,rfl,rfl,trivial⟩ ⟨rfl,rfl,rfl,rfl,rfl,rfl,trivial⟩
   refine R9 (G9 rfl rfl rfl (N9 (X9 ?_)))
   refine Q9 ?_
   refine Q9 ?_
   refine J9 [(5,_),(7,_),(9,_),(10,_),(11,_),(12,_),(13,_),(46,_)] [(0,_),(401,_),(700,_),(901,_),(2000,_),(3000,_)] ?_ ⟨rfl,rfl,rfl,rfl,rfl,rfl,rfl,rfl,trivial⟩ ⟨rfl,rfl,rfl,rfl,rfl,rfl,trivial⟩
   refine R9 (G9 rfl rfl rfl (N9 (X9 ?_)))
   refine W_block ?_
   refine W_loop (α:=Nat × Bool) (fun y => [(5,.pointer (some ⟨g401,0,none⟩)),(7,.pointer (some ⟨g901,0,none⟩)),(9,v41),(10,.int .i64 (x.2 : Int)),(11,.int .i64 (x.1 : Int)),(12,.bool (e.1.key == b.1.key)),(13,.bool y.2),(14,.int .i64 (y.1 : Int))]) (fun y => [(0,F),(700,rowP 59 35 wa esa.length (recC bvC (esa.map (fun p : EB => p.1)))),(2000,rowP 59 35 wb esb.length (recC bvC (esb.map (fun p : EB => p.1)))),(3000,rowP 59 35 v41 es3.length (recC bvC (es3.map (fun p : EB => p.1)))),(401,blk g401 31 (treeC wa ida)),(901,blk g901 31 (treeC wb idb))]) (fun y => y.1 ≤ esa.length ∧ y.2 = decide (b.1.key ∈ keysE (esa.take y.1))) (fun y => esa.length - y.1) ((0,false)) ⟨Nat.zero_le _,rfl⟩ (a9 rfl) (a9 rfl) (fun y hy => ?_)
   obtain ⟨hy1,hy2⟩:=hy
   refine Q9 ?_
   refine Q9 ?_
   refine J9 [(5,_),(7,_),(9,_),(10,_),(11,_),(12,_),(13,_),(14,_)] [(0,_),(401,_),(700,_),(901,_),(2000,_),(3000,_)] ?_ ⟨rfl,rfl,rfl,rfl,rfl,rfl,rfl,rfl,trivial⟩ ⟨rfl,rfl,rfl,rfl,rfl,rfl,trivial⟩
   refine R9 (M9 rfl rfl rfl (L9 rfl rfl (Pf9 (off:=0) rfl rfl (by kernel_rfl)) (L9 rfl rfl (Pb9 (r:=401) rfl Tryz.isAgg27 rfl rfl rfl) (L9 rfl rfl (Pl9 (r:=700) rfl Tryz.runUnderlying27 rfl rfl (fun _ h => rp9 h)) (L9 rfl rfl (Pn9 rfl rfl rfl (run_lss _ _ _ _ _ _)) (N9 (X9 ?_)))))))
   refine C9 rfl (fun hc71 => ?_) (fun hc71 => ?_)
   ·
    have hlta : y.1 < esa.length:=by have:=of_decide_eq_true hc71; omega
    obtain ⟨a,ha⟩ : ∃ a,esa[y.1]? = some a:=⟨_,List.getElem?_eq_getElem hlta⟩
    refine K9 (X9 ?_)
    refine Q9 ?_
    refine W_block ?_
    refine J9 [(5,_),(7,_),(9,_),(10,_),(11,_),(12,_),(13,_),(14,_),(71,_)] [(0,_),(401,_),(700,_),(901,_),(2000,_),(3000,_)] ?_ ⟨rfl,rfl,rfl,rfl,rfl,rfl,rfl,rfl,rfl,trivial⟩ ⟨rfl,rfl,rfl,rfl,rfl,rfl,trivial⟩
    rcases Bool.eq_false_or_eq_true (y.2) with hsp17 | hsp17
    ·
     refine W_draw (N:=17) (by kernel_rfl) rfl [(0,_),(401,_),(901,_),(700,_),(2000,_)] ⟨rfl,rfl,rfl,rfl,rfl,trivial⟩ ?_
     refine (T9 0 rfl (by kernel_rfl) rfl rfl (Pm9 rfl rfl) (T9 1 rfl (by kernel_rfl) rfl rfl (Pm9 rfl rfl) (AH_takeF 2 rfl (by kernel_rfl) (by kernel_rfl) (by kernel_rfl) rfl rfl rfl (by rw [hsp17]; rfl) rfl (by decide) (AH_takeF 3 rfl (by kernel_rfl) (by kernel_rfl) (by kernel_rfl) rfl rfl rfl (by rw [hsp17]; rfl) rfl (by decide) (AH_takeF 4 rfl (by kernel_rfl) (by kernel_rfl) (by kernel_rfl) rfl rfl rfl (by rw [hsp17]; rfl) rfl (by decide) (AH_takeF 5 rfl (by kernel_rfl) (by kernel_rfl) (by kernel_rfl) rfl rfl rfl (by rw [hsp17]; rfl) rfl (by decide) (AH_takeF 6 rfl (by kernel_rfl) (by kernel_rfl) (by kernel_rfl) rfl rfl rfl (by rw [hsp17]; rfl) rfl (by decide) (AH_takeF 7 rfl (by kernel_rfl) (by kernel_rfl) (by kernel_rfl) rfl rfl rfl (by rw [hsp17]; rfl) rfl (by decide) (AH_takeF 8 rfl (by kernel_rfl) (by kernel_rfl) (by kernel_rfl) rfl rfl rfl (by rw [hsp17]; rfl) rfl (by decide) (AH_takeF 9 rfl (by kernel_rfl) (by kernel_rfl) (by kernel_rfl) rfl rfl rfl (by rw [hsp17]; rfl) rfl (by decide) (AH_takeF 10 rfl (by kernel_rfl) (by kernel_rfl) (by kernel_rfl) rfl rfl rfl (by rw [hsp17]; rfl) rfl (by decide) (AH_takeF 11 rfl (by kernel_rfl) (by kernel_rfl) (by kernel_rfl) rfl rfl rfl (by rw [hsp17]; rfl) rfl (by decide) (AH_takeF 12 rfl (by kernel_rfl) (by kernel_rfl) (by kernel_rfl) rfl rfl rfl (by rw [hsp17]; rfl) rfl (by decide) (AH_takeF 13 rfl (by kernel_rfl) (by kernel_rfl) (by kernel_rfl) rfl rfl rfl (by rw [hsp17]; rfl) rfl (by decide) (AH_takeF 14 rfl (by kernel_rfl) (by kernel_rfl) (by kernel_rfl) rfl rfl rfl (by rw [hsp17]; rfl) rfl (by decide) (T9 15 rfl (by kernel_rfl) rfl rfl (Pu_pickT rfl rfl hsp17 rfl) (T9 16 rfl (by kernel_rfl) rfl rfl (Pg9 rfl rfl) (Ad9 (by kernel_rfl) (X_block (X9 ?_))))))))))))))))))))
     refine J9 [(5,_),(7,_),(9,_),(10,_),(11,_),(12,_),(13,_),(14,_),(71,_)] [(0,_),(401,_),(700,_),(901,_),(2000,_),(3000,_)] ?_ ⟨rfl,rfl,rfl,rfl,rfl,rfl,rfl,rfl,rfl,trivial⟩ ⟨rfl,rfl,rfl,rfl,rfl,rfl,trivial⟩
     refine R9 (M9 rfl rfl rfl (L9 rfl rfl (Pn9 rfl rfl rfl (run_add _ _ _ _ _ (by omega))) (G9 rfl rfl rfl (N9 ?_))))
     exact Xr9 (y.1 + 1,true) ⟨by dsimp only; omega,by rw [old_next hy2 ha,hsp17]; rfl⟩ (by dsimp only; omega) (a9 rfl) (a9 rfl)
    ·
     refine W_draw (N:=17) (by kernel_rfl) rfl [(0,_),(401,_),(901,_),(700,_),(2000,_)] ⟨rfl,rfl,rfl,rfl,rfl,trivial⟩ ?_
     refine (T9 0 rfl (by kernel_rfl) rfl rfl (Pm9 rfl rfl) (T9 1 rfl (by kernel_rfl) rfl rfl (Pm9 rfl rfl) (AH_takeT 2 rfl (by kernel_rfl) (by kernel_rfl) (by kernel_rfl) rfl rfl rfl (by rw [hsp17]; rfl) rfl (by decide) (Pf9 (off:=0) rfl rfl (by kernel_rfl)) (AH_takeT 3 rfl (by kernel_rfl) (by kernel_rfl) (by kernel_rfl) rfl rfl rfl (by rw [hsp17]; rfl) rfl (by decide) (Pb9 (r:=401) rfl Tryz.isAgg27 rfl rfl rfl) (AH_takeT 4 rfl (by kernel_rfl) (by kernel_rfl) (by kernel_rfl) rfl rfl rfl (by rw [hsp17]; rfl) rfl (by decide) (Pm9 rfl rfl) (AH_takeT 5 rfl (by kernel_rfl) (by kernel_rfl) (by kernel_rfl) rfl rfl rfl (by rw [hsp17]; rfl) rfl (by decide) (Pi9 (r:=700) rfl Tryz.runUnderlying27 Tryz.sizeOf59 rfl rfl rfl (fun _ h => rp9 h) (by omega)) (AH_takeT 6 rfl (by kernel_rfl) (by kernel_rfl) (by kernel_rfl) rfl rfl rfl (by rw [hsp17]; rfl) rfl (by decide) (Pu_fieldAddrE (off:=0) rfl rfl (by kernel_rfl)) (AH_takeT 7 rfl (by kernel_rfl) (by kernel_rfl) (by kernel_rfl) rfl rfl rfl (by rw [hsp17]; rfl) rfl (by decide) (Pz9 (r:=700) rfl Tryz.isAgg29 Tryz.sizeOf29 rfl rfl (fun _ h => rp9 h) ((bs_length _).trans a.1.len) (by decide) (eb_key (k:=y.1) ha)) (AH_takeT 8 rfl (by kernel_rfl) (by kernel_rfl) (by kernel_rfl) rfl rfl rfl (by rw [hsp17]; rfl) rfl (by decide) (Pf9 (off:=0) rfl rfl (by kernel_rfl)) (AH_takeT 9 rfl (by kernel_rfl) (by kernel_rfl) (by kernel_rfl) rfl rfl rfl (by rw [hsp17]; rfl) rfl (by decide) (Pb9 (r:=901) rfl Tryz.isAgg27 rfl rfl rfl) (AH_takeT 10 rfl (by kernel_rfl) (by kernel_rfl) (by kernel_rfl) rfl rfl rfl (by rw [hsp17]; rfl) rfl (by decide) (Pm9 rfl rfl) (AH_takeT 11 rfl (by kernel_rfl) (by kernel_rfl) (by kernel_rfl) rfl rfl rfl (by rw [hsp17]; rfl) rfl (by decide) (Pi9 (r:=2000) rfl Tryz.runUnderlying27 Tryz.sizeOf59 rfl rfl rfl (fun _ h => rp9 h) (by omega)) (AH_takeT 12 rfl (by kernel_rfl) (by kernel_rfl) (by kernel_rfl) rfl rfl rfl (by rw [hsp17]; rfl) rfl (by decide) (Pu_fieldAddrE (off:=0) rfl rfl (by kernel_rfl)) (AH_takeT 13 rfl (by kernel_rfl) (by kernel_rfl) (by kernel_rfl) rfl rfl rfl (by rw [hsp17]; rfl) rfl (by decide) (Pz9 (r:=2000) rfl Tryz.isAgg29 Tryz.sizeOf29 rfl rfl (fun _ h => rp9 h) ((bs_length _).trans b.1.len) (by decide) (eb_key (k:=x.1) hb)) (AH_takeT 14 rfl (by kernel_rfl) (by kernel_rfl) (by kernel_rfl) rfl rfl rfl (by rw [hsp17]; rfl) rfl (by decide) (Pn9 rfl rfl rfl (run_idEq _ _ a.1.len b.1.len _ _)) (T9 15 rfl (by kernel_rfl) rfl rfl (Pu_pickF rfl rfl hsp17 rfl) (T9 16 rfl (by kernel_rfl) rfl rfl (Pg9 rfl rfl) (Ad9 (by kernel_rfl) (X_block (X9 ?_))))))))))))))))))))
     refine J9 [(5,_),(7,_),(9,_),(10,_),(11,_),(12,_),(13,_),(14,_),(71,_)] [(0,_),(401,_),(700,_),(901,_),(2000,_),(3000,_)] ?_ ⟨rfl,rfl,rfl,rfl,rfl,rfl,rfl,rfl,rfl,trivial⟩ ⟨rfl,rfl,rfl,rfl,rfl,rfl,trivial⟩
     refine R9 (M9 rfl rfl rfl (L9 rfl rfl (Pn9 rfl rfl rfl (run_add _ _ _ _ _ (by omega))) (G9 rfl rfl rfl (N9 ?_))))
     exact Xr9 (y.1 + 1,a.1.key == b.1.key) ⟨by dsimp only; omega,by rw [old_next hy2 ha,hsp17]; rfl⟩ (by dsimp only; omega) (a9 rfl) (a9 rfl)
   ·
    have hgea : esa.length ≤ y.1:=by have:=of_decide_eq_false hc71; omega
    rw [List.take_of_length_le hgea] at hy2
    refine W_exit (X_then_exit (X_then_exit (X_block_exit (X9 ?_))))
    refine Q9 ?_
    refine Q9 ?_
    refine J9 [(5,_),(7,_),(9,_),(10,_),(11,_),(12,_),(13,_),(14,_),(71,_)] [(0,_),(401,_),(700,_),(901,_),(2000,_),(3000,_)] ?_ ⟨rfl,rfl,rfl,rfl,rfl,rfl,rfl,rfl,rfl,trivial⟩ ⟨rfl,rfl,rfl,rfl,rfl,rfl,trivial⟩
    refine R9 (M9 rfl rfl rfl (M9 rfl rfl rfl (L9 rfl rfl (Pn9 rfl rfl rfl (run_eqb _ _ _ Tryz.underlying4 _ _)) (N9 (X9 ?_)))))
    refine W_false rfl ((by rw [diff_is hx3 hb he,hy2]; cases decide (b.1.key ∈ keysE esa) <;> rfl)) ?_
    refine K9 (X9 ?_)
    refine Q9 ?_
    refine J9 [(5,_),(7,_),(9,_),(10,_),(11,_),(12,_),(13,_),(14,_),(71,_),(92,_)] [(0,_),(401,_),(700,_),(901,_),(2000,_),(3000,_)] ?_ ⟨rfl,rfl,rfl,rfl,rfl,rfl,rfl,rfl,rfl,rfl,trivial⟩ ⟨rfl,rfl,rfl,rfl,rfl,rfl,trivial⟩
    refine R9 (M9 rfl rfl rfl (N9 (X9 ?_)))
    refine C9 rfl (fun hc93 => ?_) (fun hc93 => ?_)
    ·
     have hnm : b.1.key ∉ keysE esa:=by rw [diff_is hx3 hb he] at hc93; simpa using hc93
     refine J9 [(5,_),(7,_),(9,_),(10,_),(11,_),(12,_),(13,_),(14,_),(71,_),(92,_),(93,_)] [(0,_),(401,_),(700,_),(901,_),(2000,_),(3000,_)] ?_ ⟨rfl,rfl,rfl,rfl,rfl,rfl,rfl,rfl,rfl,rfl,rfl,trivial⟩ ⟨rfl,rfl,rfl,rfl,rfl,rfl,trivial⟩
     refine R9 (M9 rfl rfl rfl (L9 rfl rfl (Pn9 rfl rfl rfl (run_add _ _ _ _ _ (by omega))) (G9 rfl rfl rfl (N9 (X_block (X9 ?_))))))
     refine J9 [(5,_),(7,_),(9,_),(10,_),(11,_),(12,_),(13,_),(14,_),(71,_),(92,_),(93,_)] [(0,_),(401,_),(700,_),(901,_),(2000,_),(3000,_)] ?_ ⟨rfl,rfl,rfl,rfl,rfl,rfl,rfl,rfl,rfl,rfl,rfl,trivial⟩ ⟨rfl,rfl,rfl,rfl,rfl,rfl,trivial⟩
     refine R9 (M9 rfl rfl rfl (L9 rfl rfl (Pn9 rfl rfl rfl (run_add _ _ _ _ _ (by omega))) (G9 rfl rfl rfl (N9 ?_))))
     exact Xr9 (x.1 + 1,x.2 + 1) ⟨by dsimp only; omega,by have:=(diff_new hx3 hb hnm).1; dsimp only; omega,(diff_new hx3 hb hnm).2.2⟩ (by dsimp only; omega) (a9 rfl) (a9 rfl)
    ·
     have hnm : b.1.key ∈ keysE esa:=by rw [diff_is hx3 hb he] at hc93; simpa using hc93
     refine K9 (X_block (X9 ?_))
     refine J9 [(5,_),(7,_),(9,_),(10,_),(11,_),(12,_),(13,_),(14,_),(71,_),(92,_),(93,_)] [(0,_),(401,_),(700,_),(901,_),(2000,_),(3000,_)] ?_ ⟨rfl,rfl,rfl,rfl,rfl,rfl,rfl,rfl,rfl,rfl,rfl,trivial⟩ ⟨rfl,rfl,rfl,rfl,rfl,rfl,trivial⟩
     refine R9 (M9 rfl rfl rfl (L9 rfl rfl (Pn9 rfl rfl rfl (run_add _ _ _ _ _ (by omega))) (G9 rfl rfl rfl (N9 ?_))))
     skip
     exact Xr9 (x.1 + 1,x.2) ⟨by dsimp only; omega,hx2,diff_old hx3 hb hnm⟩ (by dsimp only; omega) (a9 rfl) (a9 rfl)
  ·
   have hn3:=of_decide_eq_false hsp12
   have hg : decide ((x.2 : Int) < (es3.length : Int)) = false:=decide_eq_false (by omega)
   refine W_draw (N:=19) (by kernel_rfl) rfl [(0,_),(401,_),(901,_),(2000,_),(3000,_)] ⟨rfl,rfl,rfl,rfl,rfl,trivial⟩ ?_
   refine (T9 0 rfl (by kernel_rfl) rfl rfl (Pm9 rfl rfl) (T9 1 rfl (by kernel_rfl) rfl rfl (Pm9 rfl rfl) (T9 2 rfl (by kernel_rfl) rfl rfl (Pl9 (r:=3000) rfl Tryz.runUnderlying27 rfl rfl (fun _ h => rp9 h)) (T9 3 rfl (by kernel_rfl) rfl rfl (Pn9 rfl rfl rfl (run_lss _ _ _ _ _ _)) (T9 4 rfl (by kernel_rfl) rfl rfl (Pm9 rfl rfl) (AH_takeF 5 rfl (by kernel_rfl) (by kernel_rfl) (by kernel_rfl) rfl rfl rfl (by rw [hg]; rfl) rfl (by decide) (AH_takeF 6 rfl (by kernel_rfl) (by kernel_rfl) (by kernel_rfl) rfl rfl rfl (by rw [hg]; rfl) rfl (by decide) (AH_takeF 7 rfl (by kernel_rfl) (by kernel_rfl) (by kernel_rfl) rfl rfl rfl (by rw [hg]; rfl) rfl (by decide) (AH_takeF 8 rfl (by kernel_rfl) (by kernel_rfl) (by kernel_rfl) rfl rfl rfl (by rw [hg]; rfl) rfl (by decide) (AH_takeF 9 rfl (by kernel_rfl) (by kernel_rfl) (by kernel_rfl) rfl rfl rfl (by rw [hg]; rfl) rfl (by decide) (AH_takeF 10 rfl (by kernel_rfl) (by kernel_rfl) (by kernel_rfl) rfl rfl rfl (by rw [hg]; rfl) rfl (by decide) (AH_takeF 11 rfl (by kernel_rfl) (by kernel_rfl) (by kernel_rfl) rfl rfl rfl (by rw [hg]; rfl) rfl (by decide) (AH_takeF 12 rfl (by kernel_rfl) (by kernel_rfl) (by kernel_rfl) rfl rfl rfl (by rw [hg]; rfl) rfl (by decide) (AH_takeF 13 rfl (by kernel_rfl) (by kernel_rfl) (by kernel_rfl) rfl rfl rfl (by rw [hg]; rfl) rfl (by decide) (AH_takeF 14 rfl (by kernel_rfl) (by kernel_rfl) (by kernel_rfl) rfl rfl rfl (by rw [hg]; rfl) rfl (by decide) (AH_takeF 15 rfl (by kernel_rfl) (by kernel_rfl) (by kernel_rfl) rfl rfl rfl (by rw [hg]; rfl) rfl (by decide) (AH_takeF 16 rfl (by kernel_rfl) (by kernel_rfl) (by kernel_rfl) rfl rfl rfl (by rw [hg]; rfl) rfl (by decide) (T9 17 rfl (by kernel_rfl) rfl rfl (Pu_pickF rfl rfl hg rfl) (T9 18 rfl (by kernel_rfl) rfl rfl (Pg9 rfl rfl) (Ad9 (by kernel_rfl) (X9 ?_)))))))))))))))))))))
   refine Q9 ?_
   refine J9 [(5,_),(7,_),(9,_),(10,_),(11,_),(12,_),(46,_)] [(0,_),(401,_),(700,_),(901,_),(2000,_),(3000,_)] ?_ ⟨rfl,rfl,rfl,rfl,rfl,rfl,rfl,trivial⟩ ⟨rfl,rfl,rfl,rfl,rfl,rfl,trivial⟩
   refine R9 (G9 rfl rfl rfl (N9 (X9 ?_)))
   refine Q9 ?_
   refine Q9 ?_
   refine J9 [(5,_),(7,_),(9,_),(10,_),(11,_),(12,_),(13,_),(46,_)] [(0,_),(401,_),(700,_),(901,_),(2000,_),(3000,_)] ?_ ⟨rfl,rfl,rfl,rfl,rfl,rfl,rfl,rfl,trivial⟩ ⟨rfl,rfl,rfl,rfl,rfl,rfl,trivial⟩
   refine R9 (G9 rfl rfl rfl (N9 (X9 ?_)))
   refine W_block ?_
   refine W_loop (α:=Nat × Bool) (fun y => [(5,.pointer (some ⟨g401,0,none⟩)),(7,.pointer (some ⟨g901,0,none⟩)),(9,v41),(10,.int .i64 (x.2 : Int)),(11,.int .i64 (x.1 : Int)),(12,.bool false),(13,.bool y.2),(14,.int .i64 (y.1 : Int))]) (fun y => [(0,F),(700,rowP 59 35 wa esa.length (recC bvC (esa.map (fun p : EB => p.1)))),(2000,rowP 59 35 wb esb.length (recC bvC (esb.map (fun p : EB => p.1)))),(3000,rowP 59 35 v41 es3.length (recC bvC (es3.map (fun p : EB => p.1)))),(401,blk g401 31 (treeC wa ida)),(901,blk g901 31 (treeC wb idb))]) (fun y => y.1 ≤ esa.length ∧ y.2 = decide (b.1.key ∈ keysE (esa.take y.1))) (fun y => esa.length - y.1) ((0,false)) ⟨Nat.zero_le _,rfl⟩ (a9 rfl) (a9 rfl) (fun y hy => ?_)
   obtain ⟨hy1,hy2⟩:=hy
   refine Q9 ?_
   refine Q9 ?_
   refine J9 [(5,_),(7,_),(9,_),(10,_),(11,_),(12,_),(13,_),(14,_)] [(0,_),(401,_),(700,_),(901,_),(2000,_),(3000,_)] ?_ ⟨rfl,rfl,rfl,rfl,rfl,rfl,rfl,rfl,trivial⟩ ⟨rfl,rfl,rfl,rfl,rfl,rfl,trivial⟩
   refine R9 (M9 rfl rfl rfl (L9 rfl rfl (Pf9 (off:=0) rfl rfl (by kernel_rfl)) (L9 rfl rfl (Pb9 (r:=401) rfl Tryz.isAgg27 rfl rfl rfl) (L9 rfl rfl (Pl9 (r:=700) rfl Tryz.runUnderlying27 rfl rfl (fun _ h => rp9 h)) (L9 rfl rfl (Pn9 rfl rfl rfl (run_lss _ _ _ _ _ _)) (N9 (X9 ?_)))))))
   refine C9 rfl (fun hc71 => ?_) (fun hc71 => ?_)
   ·
    have hlta : y.1 < esa.length:=by have:=of_decide_eq_true hc71; omega
    obtain ⟨a,ha⟩ : ∃ a,esa[y.1]? = some a:=⟨_,List.getElem?_eq_getElem hlta⟩
    refine K9 (X9 ?_)
    refine Q9 ?_
    refine W_block ?_
    refine J9 [(5,_),(7,_),(9,_),(10,_),(11,_),(12,_),(13,_),(14,_),(71,_)] [(0,_),(401,_),(700,_),(901,_),(2000,_),(3000,_)] ?_ ⟨rfl,rfl,rfl,rfl,rfl,rfl,rfl,rfl,rfl,trivial⟩ ⟨rfl,rfl,rfl,rfl,rfl,rfl,trivial⟩
    rcases Bool.eq_false_or_eq_true (y.2) with hsp17 | hsp17
    ·
     refine W_draw (N:=17) (by kernel_rfl) rfl [(0,_),(401,_),(901,_),(700,_),(2000,_)] ⟨rfl,rfl,rfl,rfl,rfl,trivial⟩ ?_
     refine (T9 0 rfl (by kernel_rfl) rfl rfl (Pm9 rfl rfl) (T9 1 rfl (by kernel_rfl) rfl rfl (Pm9 rfl rfl) (AH_takeF 2 rfl (by kernel_rfl) (by kernel_rfl) (by kernel_rfl) rfl rfl rfl (by rw [hsp17]; rfl) rfl (by decide) (AH_takeF 3 rfl (by kernel_rfl) (by kernel_rfl) (by kernel_rfl) rfl rfl rfl (by rw [hsp17]; rfl) rfl (by decide) (AH_takeF 4 rfl (by kernel_rfl) (by kernel_rfl) (by kernel_rfl) rfl rfl rfl (by rw [hsp17]; rfl) rfl (by decide) (AH_takeF 5 rfl (by kernel_rfl) (by kernel_rfl) (by kernel_rfl) rfl rfl rfl (by rw [hsp17]; rfl) rfl (by decide) (AH_takeF 6 rfl (by kernel_rfl) (by kernel_rfl) (by kernel_rfl) rfl rfl rfl (by rw [hsp17]; rfl) rfl (by decide) (AH_takeF 7 rfl (by kernel_rfl) (by kernel_rfl) (by kernel_rfl) rfl rfl rfl (by rw [hsp17]; rfl) rfl (by decide) (AH_takeF 8 rfl (by kernel_rfl) (by kernel_rfl) (by kernel_rfl) rfl rfl rfl (by rw [hsp17]; rfl) rfl (by decide) (AH_takeF 9 rfl (by kernel_rfl) (by kernel_rfl) (by kernel_rfl) rfl rfl rfl (by rw [hsp17]; rfl) rfl (by decide) (AH_takeF 10 rfl (by kernel_rfl) (by kernel_rfl) (by kernel_rfl) rfl rfl rfl (by rw [hsp17]; rfl) rfl (by decide) (AH_takeF 11 rfl (by kernel_rfl) (by kernel_rfl) (by kernel_rfl) rfl rfl rfl (by rw [hsp17]; rfl) rfl (by decide) (AH_takeF 12 rfl (by kernel_rfl) (by kernel_rfl) (by kernel_rfl) rfl rfl rfl (by rw [hsp17]; rfl) rfl (by decide) (AH_takeF 13 rfl (by kernel_rfl) (by kernel_rfl) (by kernel_rfl) rfl rfl rfl (by rw [hsp17]; rfl) rfl (by decide) (AH_takeF 14 rfl (by kernel_rfl) (by kernel_rfl) (by kernel_rfl) rfl rfl rfl (by rw [hsp17]; rfl) rfl (by decide) (T9 15 rfl (by kernel_rfl) rfl rfl (Pu_pickT rfl rfl hsp17 rfl) (T9 16 rfl (by kernel_rfl) rfl rfl (Pg9 rfl rfl) (Ad9 (by kernel_rfl) (X_block (X9 ?_))))))))))))))))))))
     refine J9 [(5,_),(7,_),(9,_),(10,_),(11,_),(12,_),(13,_),(14,_),(71,_)] [(0,_),(401,_),(700,_),(901,_),(2000,_),(3000,_)] ?_ ⟨rfl,rfl,rfl,rfl,rfl,rfl,rfl,rfl,rfl,trivial⟩ ⟨rfl,rfl,rfl,rfl,rfl,rfl,trivial⟩
     refine R9 (M9 rfl rfl rfl (L9 rfl rfl (Pn9 rfl rfl rfl (run_add _ _ _ _ _ (by omega))) (G9 rfl rfl rfl (N9 ?_))))
     exact Xr9 (y.1 + 1,true) ⟨by dsimp only; omega,by rw [old_next hy2 ha,hsp17]; rfl⟩ (by dsimp only; omega) (a9 rfl) (a9 rfl)
    ·
     refine W_draw (N:=17) (by kernel_rfl) rfl [(0,_),(401,_),(901,_),(700,_),(2000,_)] ⟨rfl,rfl,rfl,rfl,rfl,trivial⟩ ?_
     refine (T9 0 rfl (by kernel_rfl) rfl rfl (Pm9 rfl rfl) (T9 1 rfl (by kernel_rfl) rfl rfl (Pm9 rfl rfl) (AH_takeT 2 rfl (by kernel_rfl) (by kernel_rfl) (by kernel_rfl) rfl rfl rfl (by rw [hsp17]; rfl) rfl (by decide) (Pf9 (off:=0) rfl rfl (by kernel_rfl)) (AH_takeT 3 rfl (by kernel_rfl) (by kernel_rfl) (by kernel_rfl) rfl rfl rfl (by rw [hsp17]; rfl) rfl (by decide) (Pb9 (r:=401) rfl Tryz.isAgg27 rfl rfl rfl) (AH_takeT 4 rfl (by kernel_rfl) (by kernel_rfl) (by kernel_rfl) rfl rfl rfl (by rw [hsp17]; rfl) rfl (by decide) (Pm9 rfl rfl) (AH_takeT 5 rfl (by kernel_rfl) (by kernel_rfl) (by kernel_rfl) rfl rfl rfl (by rw [hsp17]; rfl) rfl (by decide) (Pi9 (r:=700) rfl Tryz.runUnderlying27 Tryz.sizeOf59 rfl rfl rfl (fun _ h => rp9 h) (by omega)) (AH_takeT 6 rfl (by kernel_rfl) (by kernel_rfl) (by kernel_rfl) rfl rfl rfl (by rw [hsp17]; rfl) rfl (by decide) (Pu_fieldAddrE (off:=0) rfl rfl (by kernel_rfl)) (AH_takeT 7 rfl (by kernel_rfl) (by kernel_rfl) (by kernel_rfl) rfl rfl rfl (by rw [hsp17]; rfl) rfl (by decide) (Pz9 (r:=700) rfl Tryz.isAgg29 Tryz.sizeOf29 rfl rfl (fun _ h => rp9 h) ((bs_length _).trans a.1.len) (by decide) (eb_key (k:=y.1) ha)) (AH_takeT 8 rfl (by kernel_rfl) (by kernel_rfl) (by kernel_rfl) rfl rfl rfl (by rw [hsp17]; rfl) rfl (by decide) (Pf9 (off:=0) rfl rfl (by kernel_rfl)) (AH_takeT 9 rfl (by kernel_rfl) (by kernel_rfl) (by kernel_rfl) rfl rfl rfl (by rw [hsp17]; rfl) rfl (by decide) (Pb9 (r:=901) rfl Tryz.isAgg27 rfl rfl rfl) (AH_takeT 10 rfl (by kernel_rfl) (by kernel_rfl) (by kernel_rfl) rfl rfl rfl (by rw [hsp17]; rfl) rfl (by decide) (Pm9 rfl rfl) (AH_takeT 11 rfl (by kernel_rfl) (by kernel_rfl) (by kernel_rfl) rfl rfl rfl (by rw [hsp17]; rfl) rfl (by decide) (Pi9 (r:=2000) rfl Tryz.runUnderlying27 Tryz.sizeOf59 rfl rfl rfl (fun _ h => rp9 h) (by omega)) (AH_takeT 12 rfl (by kernel_rfl) (by kernel_rfl) (by kernel_rfl) rfl rfl rfl (by rw [hsp17]; rfl) rfl (by decide) (Pu_fieldAddrE (off:=0) rfl rfl (by kernel_rfl)) (AH_takeT 13 rfl (by kernel_rfl) (by kernel_rfl) (by kernel_rfl) rfl rfl rfl (by rw [hsp17]; rfl) rfl (by decide) (Pz9 (r:=2000) rfl Tryz.isAgg29 Tryz.sizeOf29 rfl rfl (fun _ h => rp9 h) ((bs_length _).trans b.1.len) (by decide) (eb_key (k:=x.1) hb)) (AH_takeT 14 rfl (by kernel_rfl) (by kernel_rfl) (by kernel_rfl) rfl rfl rfl (by rw [hsp17]; rfl) rfl (by decide) (Pn9 rfl rfl rfl (run_idEq _ _ a.1.len b.1.len _ _)) (T9 15 rfl (by kernel_rfl) rfl rfl (Pu_pickF rfl rfl hsp17 rfl) (T9 16 rfl (by kernel_rfl) rfl rfl (Pg9 rfl rfl) (Ad9 (by kernel_rfl) (X_block (X9 ?_))))))))))))))))))))
     refine J9 [(5,_),(7,_),(9,_),(10,_),(11,_),(12,_),(13,_),(14,_),(71,_)] [(0,_),(401,_),(700,_),(901,_),(2000,_),(3000,_)] ?_ ⟨rfl,rfl,rfl,rfl,rfl,rfl,rfl,rfl,rfl,trivial⟩ ⟨rfl,rfl,rfl,rfl,rfl,rfl,trivial⟩
     refine R9 (M9 rfl rfl rfl (L9 rfl rfl (Pn9 rfl rfl rfl (run_add _ _ _ _ _ (by omega))) (G9 rfl rfl rfl (N9 ?_))))
     exact Xr9 (y.1 + 1,a.1.key == b.1.key) ⟨by dsimp only; omega,by rw [old_next hy2 ha,hsp17]; rfl⟩ (by dsimp only; omega) (a9 rfl) (a9 rfl)
   ·
    have hgea : esa.length ≤ y.1:=by have:=of_decide_eq_false hc71; omega
    rw [List.take_of_length_le hgea] at hy2
    refine W_exit (X_then_exit (X_then_exit (X_block_exit (X9 ?_))))
    refine Q9 ?_
    refine Q9 ?_
    refine J9 [(5,_),(7,_),(9,_),(10,_),(11,_),(12,_),(13,_),(14,_),(71,_)] [(0,_),(401,_),(700,_),(901,_),(2000,_),(3000,_)] ?_ ⟨rfl,rfl,rfl,rfl,rfl,rfl,rfl,rfl,rfl,trivial⟩ ⟨rfl,rfl,rfl,rfl,rfl,rfl,trivial⟩
    refine R9 (M9 rfl rfl rfl (M9 rfl rfl rfl (L9 rfl rfl (Pn9 rfl rfl rfl (run_eqb _ _ _ Tryz.underlying4 _ _)) (N9 (X9 ?_)))))
    refine W_false rfl ((by rw [hy2,decide_eq_true (diff_no hx3 hb hn3)]; rfl)) ?_
    refine K9 (X9 ?_)
    refine Q9 ?_
    refine J9 [(5,_),(7,_),(9,_),(10,_),(11,_),(12,_),(13,_),(14,_),(71,_),(92,_)] [(0,_),(401,_),(700,_),(901,_),(2000,_),(3000,_)] ?_ ⟨rfl,rfl,rfl,rfl,rfl,rfl,rfl,rfl,rfl,rfl,trivial⟩ ⟨rfl,rfl,rfl,rfl,rfl,rfl,trivial⟩
    refine R9 (M9 rfl rfl rfl (N9 (X9 ?_)))
    refine W_false rfl (rfl) ?_
    refine K9 (X_block (X9 ?_))
    refine J9 [(5,_),(7,_),(9,_),(10,_),(11,_),(12,_),(13,_),(14,_),(71,_),(92,_),(93,_)] [(0,_),(401,_),(700,_),(901,_),(2000,_),(3000,_)] ?_ ⟨rfl,rfl,rfl,rfl,rfl,rfl,rfl,rfl,rfl,rfl,rfl,trivial⟩ ⟨rfl,rfl,rfl,rfl,rfl,rfl,trivial⟩
    refine R9 (M9 rfl rfl rfl (L9 rfl rfl (Pn9 rfl rfl rfl (run_add _ _ _ _ _ (by omega))) (G9 rfl rfl rfl (N9 ?_))))
    have hnm:=diff_no hx3 hb hn3
    exact Xr9 (x.1 + 1,x.2) ⟨by dsimp only; omega,hx2,diff_old hx3 hb hnm⟩ (by dsimp only; omega) (a9 rfl) (a9 rfl)
 ·
  have hge : esb.length ≤ x.1:=by have:=of_decide_eq_false hc46; omega
  refine W_exit (X_then_exit (X_then_exit (X_block_exit (X9 ?_))))
  refine Q9 ?_
  refine J9 [(5,_),(7,_),(9,_),(10,_),(11,_),(46,_)] [(0,_),(401,_),(700,_),(901,_),(2000,_),(3000,_)] ?_ ⟨rfl,rfl,rfl,rfl,rfl,rfl,trivial⟩ ⟨rfl,rfl,rfl,rfl,rfl,rfl,trivial⟩
  refine R9 (M9 rfl rfl rfl (M9 rfl rfl rfl (L9 rfl rfl (Pl9 (r:=3000) rfl Tryz.runUnderlying27 rfl rfl (fun _ h => rp9 h)) (L9 rfl rfl (Pn9 rfl rfl rfl (run_eql _ _ _ _ _ _)) (G9 rfl rfl rfl (N9 (X9 ?_)))))))
  refine W_ret ?_
  have hend:=diff_end hx3 hge
  exact Xq9 [] (Ps:=[]) (res1 Tryz.results7 rfl) rfl (by decide) ⟨by rw [decide_eq_true (show (x.2 : Int) = (es3.length : Int) by omega)] <;> rfl,rfl⟩
end Go.Proofs.YthkdkmaacjpneaaGreatDoor
/- From a reading of an argument to plain facts: ints,bools,strings,slices of bytes,of ints,of rows of bytes,of structs. -/
namespace Go.Proofs.YthkdkmaacjpneaaGreatDoor
open Go.RowKit Go.ChangeShapes Go.WideShapes Go.Deep

theorem wf_i64 {n : Int} (h : (Lit.int .i64 n).wf = true) : -9223372036854775808 ≤ n ∧ n ≤ 9223372036854775807:=by
  simp only [Lit.wf,Bool.and_eq_true,decide_eq_true_eq] at h
  have h1 : IntKind.min .i64 = -9223372036854775808:=by decide
  have h2 : IntKind.max .i64 = 9223372036854775807:=by decide
  rw [h1,h2] at h
  exact h
theorem wf_u8 {n : Int} (h : (Lit.int .u8 n).wf = true) : 0 ≤ n ∧ n ≤ 255:=by
  simp only [Lit.wf,Bool.and_eq_true,decide_eq_true_eq] at h
  have h1 : IntKind.min .u8 = 0:=by decide
  have h2 : IntKind.max .u8 = 255:=by decide
  rw [h1,h2] at h
  exact h

def RdI (w : World) (v : Value) (zs : List Int) : Prop:=Rd w 1 v zs.length (zs.map (Value.int .i64))
def I64 (zs : List Int) : Prop:=∀ z ∈ zs,-9223372036854775808 ≤ z ∧ z ≤ 9223372036854775807
def RdT (w : World) (v : Value) (l : List Bool) : Prop:=Rd w 1 v l.length (l.map Value.bool)
def RdR (w : World) (v : Value) (ps : List (Value × List UInt8)) : Prop:=Rd w 1 v ps.length (ps.map (·.1)) ∧ ∀ p ∈ ps,RdB w p.1 p.2

theorem ints_of (vs : List Value) (h : ∀ u ∈ vs,∃ n,u = .int .i64 n ∧ (Lit.int .i64 n).wf = true) : ∃ zs : List Int,vs = zs.map (Value.int .i64) ∧ I64 zs:=by
  induction vs with
  | nil => exact ⟨[],rfl,by simp [I64]⟩
  | cons u vs ih =>
    obtain ⟨zs,rfl,hz⟩:=ih fun x hx => h x (List.mem_cons_of_mem _ hx)
    obtain ⟨n,rfl,hw⟩:=h u (List.mem_cons_self ..)
    refine ⟨n :: zs,rfl,fun z hm => ?_⟩
    rcases List.mem_cons.1 hm with rfl | hm
    · exact wf_i64 hw
    · exact hz z hm
theorem pairs_of {α β : Type} {R : α → β → Prop} (vs : List α) (h : ∀ u ∈ vs,∃ y,R u y) : ∃ ps : List (α × β),vs = ps.map (·.1) ∧ ∀ p ∈ ps,R p.1 p.2:=by
  induction vs with
  | nil => exact ⟨[],rfl,by simp⟩
  | cons u vs ih =>
    obtain ⟨ps,rfl,hp⟩:=ih fun x hx => h x (List.mem_cons_of_mem _ hx)
    obtain ⟨y,hy⟩:=h u (List.mem_cons_self ..)
    refine ⟨(u,y) :: ps,rfl,fun p hm => ?_⟩
    rcases List.mem_cons.1 hm with rfl | hm
    · exact hy
    · exact hp p hm

section
variable {H : Type} {enc : TypeId × Value → H} {P : Program} {w : World} {base : Nat} {spare : Nat → Bool} {held : Bool}

theorem slice1_of {t e : TypeId} {fuel : Nat} {v : Value} {x : DataW H × List MemPlace} (ht : P.underlying t = some (.slice e)) (hc : P.cellsOf e = 1) (h : DataW.trod enc P w base spare held fuel t [v] = some x) :
    ∃ vs : List Value,Rd w 1 v vs.length vs ∧ vs.length ≤ maxLen ∧ ∀ u ∈ vs,∃ n y,DataW.trod enc P w base spare held n e [u] = some y:=by
  rcases open_slice1 ht hc h with ⟨h1,_⟩ | ⟨a,len,cap,m,n,V,D,Pl,h1,hb,hl,hm,hmm,hx,hV⟩
  · injection h1 with h1; subst h1
    exact ⟨[],⟨rfl,none,0,rfl,Nat.le_refl _,fun _ => rfl,fun ad h => by cases h⟩,by unfold maxLen; simp,by simp⟩
  · injection h1 with h1; subst h1
    have hle : len ≤ m:=by rw [hmm]; split <;> omega
    refine ⟨(List.range len).map V,⟨by simp,some a,cap,by simp,by simpa using hl,(fun h => by cases h),fun ad had => ?_⟩,by simp; omega,fun u hu => ?_⟩
    · injection had with had; subst had
      refine ⟨fun hp => ?_,fun j u hu => ?_⟩
      · have:=(hV 0 (by simp at hp; omega)).1
        have:=World.block_lt_of_cell? _ _ this
        rwa [block_of_add] at this
      · simp only [List.getElem?_map] at hu
        have hj : j < len:=by
          rcases Nat.lt_or_ge j len with h | h
          · exact h
          · simp [List.getElem?_eq_none (show (List.range len).length ≤ j by simpa using h)] at hu
        simp [List.getElem?_range hj] at hu
        subst hu
        exact (hV j (by omega)).1
    · simp only [List.mem_map,List.mem_range] at hu
      obtain ⟨i,hi,rfl⟩:=hu
      exact ⟨n,_,(hV i (by omega)).2⟩

theorem rdI_of {t e : TypeId} {fuel : Nat} {v : Value} {x : DataW H × List MemPlace} (ht : P.underlying t = some (.slice e)) (he : P.underlying e = some (.int .i64)) (hc : P.cellsOf e = 1) (h : DataW.trod enc P w base spare held fuel t [v] = some x) :
    ∃ l,RdI w v l ∧ I64 l ∧ l.length ≤ maxLen:=by
  obtain ⟨vs,hr,hm,hu⟩:=slice1_of ht hc h
  obtain ⟨l,rfl,hl⟩:=ints_of vs fun u hmem => by
    obtain ⟨n,y,hy⟩:=hu u hmem
    obtain ⟨k,h1,_,h3⟩:=DataW.trod_int he hy
    injection h1 with h1
    exact ⟨k,h1,h3⟩
  rw [List.length_map] at hr hm
  exact ⟨l,hr,hl,hm⟩
theorem rows_of {t e : TypeId} {fs : Array Field} {fuel : Nat} {v : Value} {x : DataW H × List MemPlace} (ht : P.underlying t = some (.slice e)) (he : P.underlying e = some (.struct fs))
    (hone : oneCellFields P fs = true) (hS : 0 < fs.size) (hC : P.cellsOf e = fs.size) (h : DataW.trod enc P w base spare held fuel t [v] = some x) :
    ∃ rs : List (List Value),Rd w fs.size v rs.length rs.flatten ∧ rs.length ≤ maxLen ∧ ∀ r ∈ rs,r.length = fs.size ∧
      ∀ (j : Nat) (f : Field),fs[j]? = some f → ∃ u n y,r[j]? = some u ∧ DataW.trod enc P w base spare held n f.type [u] = some y:=by
  rcases open_slice ht h with ⟨h1,_⟩ | ⟨a,len,cap,m,n,D,Pl,h1,hb,hl,hm,hmm,hx,hi⟩
  · injection h1 with h1; subst h1
    exact ⟨[],⟨by simp,none,0,rfl,Nat.le_refl _,fun _ => rfl,fun ad h => by cases h⟩,by unfold maxLen; simp,by simp⟩
  · injection h1 with h1; subst h1
    have hle : len ≤ m:=by rw [hmm]; split <;> omega
    rw [hC] at hi
    obtain ⟨V,hV⟩:=choose_lt (α:=List Value) (p:=fun i cs' => w.cells? base (a.add (i * fs.size)) fs.size = some cs' ∧ DataW.trod enc P w base spare held n e cs' = some (D i,Pl i)) (n:=m) (fun i him => hi i him)
    have hfl : ∀ i,i < len → (V i).length = fs.size:=fun i h => (World.cells?_some (hV i (by omega)).1).2.1
    have hlen : ∀ k,k ≤ len → ((List.range k).map V).flatten.length = k * fs.size:=by
      intro k hk
      induction k with
      | zero => simp
      | succ k ih =>
        rw [List.range_succ,List.map_append,List.flatten_append,List.length_append,ih (by omega)]
        simp [hfl k (by omega),Nat.add_mul]
    have hget : ∀ k,k ≤ len → ∀ (j : Nat) (u : Value),((List.range k).map V).flatten[j]? = some u → w.cell? (a.add j) = some u:=by
      intro k hk
      induction k with
      | zero => intro j u hu; simp at hu
      | succ k ih =>
        intro j u hu
        rw [List.range_succ,List.map_append,List.flatten_append,List.getElem?_append,hlen k (by omega)] at hu
        split at hu
        · exact ih (by omega) j u hu
        · simp only [List.map_cons,List.map_nil,List.flatten_cons,List.flatten_nil,List.append_nil] at hu
          have hj : j - k * fs.size < fs.size:=by
            have:=(List.getElem?_eq_some_iff.1 hu).1
            rw [hfl k (by omega)] at this
            exact this
          have h2:=(World.cells?_some (hV k (by omega)).1).2.2 (j - k * fs.size) hj
          rw [add_of_add,show k * fs.size + (j - k * fs.size) = j by omega] at h2
          rw [h2,hu]
    refine ⟨(List.range len).map V,⟨by rw [hlen len (Nat.le_refl _)]; simp,some a,cap,by simp,by simpa using hl,(fun h => by cases h),fun ad had => ?_⟩,by simp; omega,fun r hr => ?_⟩
    · injection had with had; subst had
      refine ⟨fun hp => ?_,hget len (Nat.le_refl _)⟩
      have hp' : 0 < len:=by simpa using hp
      have h0:=(hV 0 (by omega)).1
      have h1:=(World.cells?_some h0).2.2 0 hS
      rw [List.getElem?_eq_getElem (by rw [hfl 0 hp']; exact hS)] at h1
      have:=World.block_lt_of_cell? _ _ h1
      rwa [block_of_add,block_of_add] at this
    · simp only [List.mem_map,List.mem_range] at hr
      obtain ⟨i,hil,rfl⟩:=hr
      obtain ⟨hc,htd⟩:=hV i (by omega)
      obtain ⟨ys,n',hn',hy,hlen',hyl,hf⟩:=DataW.trod_struct he htd
      refine ⟨hfl i hil,fun j f hj => ?_⟩
      obtain ⟨ho,hk⟩:=hone_of hone j f hj
      have hjl : j < fs.size:=(Array.getElem?_eq_some_iff.1 hj).1
      have h1:=hf j f hj
      rw [ho,hk] at h1
      have hvl:=hfl i hil
      have hone' : ((V i).drop j).take 1 = [(V i)[j]'(by omega)]:=by
        rw [List.drop_eq_getElem_cons (by omega)]
        rfl
      rw [hone',List.getElem?_eq_getElem (by omega)] at h1
      exact ⟨_,n',_,List.getElem?_eq_getElem (by omega),h1⟩
end

section
variable {H : Type} {enc : TypeId × Value → H} {P : Program} {w : World} {base b0 : Nat} {spare : Nat → Bool} {held : Bool} {r : Reach} {t : TypeId} {v : Value} {d : DataW H} {ps : List MemPlace}
theorem op_slice {e : TypeId} (ht : P.underlying t = some (.slice e)) (hv : Value.okWide P w r b0 t v) (h : DataW.Trod enc P w base spare held t v d ps) : ∃ fuel,DataW.trod enc P w base spare held fuel t [v] = some (d,ps):=by
  obtain ⟨a,len,cap,rfl⟩:=okWide_slice ht hv
  obtain ⟨fuel,hf⟩:=h
  exact ⟨fuel,by simpa [Value.cells] using hf⟩
end
end Go.Proofs.YthkdkmaacjpneaaGreatDoor
/- From a reading of an argument to plain facts: structs and arrays by value,slices of them. -/
namespace Go.Proofs.YthkdkmaacjpneaaGreatDoor
open Go.RowKit Go.ChangeShapes Go.WideShapes Go.Deep
section
variable {H : Type} {enc : TypeId × Value → H} {P : Program} {w : World} {base : Nat} {spare : Nat → Bool} {held : Bool}
def Tr (enc : TypeId × Value → H) (P : Program) (w : World) (base : Nat) (spare : Nat → Bool) (held : Bool) (t : TypeId) (cs : List Value) : Prop:=∃ fuel x,DataW.trod enc P w base spare held fuel t cs = some x
theorem Tr.int {t : TypeId} {cs : List Value} (ht : P.underlying t = some (.int .i64)) (h : Tr enc P w base spare held t cs) : ∃ n,cs = [.int .i64 n] ∧ -9223372036854775808 ≤ n ∧ n ≤ 9223372036854775807:=by
  obtain ⟨f,x,h⟩:=h
  obtain ⟨n,rfl,_,hw⟩:=DataW.trod_int ht h
  exact ⟨n,rfl,wf_i64 hw⟩
theorem Tr.bool {t : TypeId} {cs : List Value} (ht : P.underlying t = some .bool) (h : Tr enc P w base spare held t cs) : ∃ b,cs = [Value.bool b]:=by
  obtain ⟨f,x,h⟩:=h
  obtain ⟨b,rfl,_⟩:=DataW.trod_bool ht h
  exact ⟨b,rfl⟩
theorem Tr.u8 {t : TypeId} {cs : List Value} (ht : P.underlying t = some (.int .u8)) (h : Tr enc P w base spare held t cs) : ∃ x,cs = [bv x]:=by
  obtain ⟨f,x,h⟩:=h
  obtain ⟨n,rfl,_,hw⟩:=DataW.trod_int ht h
  have:=wf_u8 hw
  refine ⟨UInt8.ofNat n.toNat,?_⟩
  simp only [bv]
  congr 2
  rw [UInt8.toNat_ofNat']
  omega
theorem Tr.struct {t : TypeId} {cs : List Value} {fs : Array Field} (ht : P.underlying t = some (.struct fs)) (h : Tr enc P w base spare held t cs) : cs.length = P.cellsOf t ∧ ∀ (i : Nat) (f : Field),fs[i]? = some f → Tr enc P w base spare held f.type ((cs.drop f.offset).take (P.cellsOf f.type)):=by
  obtain ⟨f,x,h⟩:=h
  obtain ⟨xs,n,_,_,hl,hx,hf⟩:=DataW.trod_struct ht h
  refine ⟨hl,fun i f hi => ?_⟩
  have h1:=hf i f hi
  have hlt : i < xs.length:=by rw [hx]; exact (Array.getElem?_eq_some_iff.1 hi).1
  rw [List.getElem?_eq_getElem hlt] at h1
  exact ⟨n,_,h1⟩
theorem Tr.array {t e : TypeId} {n : Nat} {cs : List Value} (ht : P.underlying t = some (.array n e)) (h : Tr enc P w base spare held t cs) : cs.length = P.cellsOf t ∧ ∀ i,i < n → Tr enc P w base spare held e ((cs.drop (i * P.cellsOf e)).take (P.cellsOf e)):=by
  obtain ⟨f,x,h⟩:=h
  obtain ⟨xs,m,_,_,hl,hx,hf⟩:=DataW.trod_array ht h
  refine ⟨hl,fun i hi => ?_⟩
  have h1:=hf i hi
  rw [List.getElem?_eq_getElem (by omega)] at h1
  exact ⟨m,_,h1⟩
theorem Tr.bytes {t e : TypeId} {n : Nat} {cs : List Value} (ht : P.underlying t = some (.array n e)) (he : P.underlying e = some (.int .u8)) (hc : P.cellsOf e = 1) (hn : P.cellsOf t = n) (h : Tr enc P w base spare held t cs) : ∃ l,cs = bs l ∧ l.length = n:=by
  obtain ⟨hl,hf⟩:=h.array ht
  rw [hn] at hl
  rw [hc] at hf
  have key : ∀ (cs : List Value),(∀ i,i < cs.length → Tr enc P w base spare held e ((cs.drop (i * 1)).take 1)) → ∃ l,cs = bs l:=by
    intro cs
    induction cs with
    | nil => intro _; exact ⟨[],rfl⟩
    | cons u cs ih =>
      intro h
      obtain ⟨l,rfl⟩:=ih (fun i hi => by
        have:=h (i + 1) (by simpa using hi)
        simpa using this)
      obtain ⟨x,hx⟩:=(h 0 (by simp)).u8 he
      simp at hx
      exact ⟨x :: l,by simp [bs,hx]⟩
  obtain ⟨l,rfl⟩:=key cs (fun i hi => hf i (by omega))
  exact ⟨l,rfl,by rw [← hl,bs_length]⟩
end
section
variable {H : Type} {enc : TypeId × Value → H} {P : Program} {w : World} {base b0 : Nat} {spare : Nat → Bool} {held : Bool} {r : Reach} {t : TypeId} {v : Value} {d : DataW H} {ps : List MemPlace}
end
end Go.Proofs.YthkdkmaacjpneaaGreatDoor
/- How long an argument may be: the reach. -/
namespace Go.Proofs.YthkdkmaacjpneaaGreatDoor
open Go.RowKit Go.ChangeShapes Go.WideShapes Go.Deep
section
variable {H : Type} {enc : TypeId × Value → H} {P : Program} {w : World} {base : Nat} {spare : Nat → Bool} {held : Bool}
end
end Go.Proofs.YthkdkmaacjpneaaGreatDoor
/- From a reading of an argument to plain facts: strings,slices of strings,slices of slices of ints. -/
namespace Go.Proofs.YthkdkmaacjpneaaGreatDoor
open Go.RowKit Go.ChangeShapes Go.WideShapes Go.Deep
section
variable {H : Type} {enc : TypeId × Value → H} {P : Program} {w : World} {base b0 : Nat} {spare : Nat → Bool} {held : Bool} {r : Reach} {t : TypeId} {v : Value} {d : DataW H} {ps : List MemPlace}
end
end Go.Proofs.YthkdkmaacjpneaaGreatDoor
/- From a reading of an argument to plain facts: a slice of files; a slice's length is at most the bulk of what is read. -/
namespace Go.Proofs.YthkdkmaacjpneaaGreatDoor
open Go.RowKit Go.ChangeShapes Go.WideShapes Go.Deep
section
variable {H : Type} {enc : TypeId × Value → H} {w : World} {base : Nat} {spare : Nat → Bool} {held : Bool} {v : Value}
theorem rdFiles_of {fuel : Nat} {x : DataW H × List MemPlace} (h : DataW.trod enc Tryz.prog w base spare held fuel 22 [v] = some x) :
    ∃ fs : List FV,(Rd w 3 v fs.length (recC fileC fs) ∧ ∀ f ∈ fs,Rd w 1 f.2.1 f.1.length (is f.1)) ∧ fs.length ≤ maxLen:=by
  obtain ⟨rs,hr,hm,hrs⟩:=rows_of Tryz.underlying22 Tryz.underlying97 (by kernel_rfl) (by decide) (by kernel_rfl) h
  obtain ⟨cs,hcs,hp⟩:=pairs_of (R:=fun (r : List Value) (c : FV) => r = fileC c ∧ Rd w 1 c.2.1 c.1.length (is c.1)) rs fun r hrm => by
    obtain ⟨hl,hf⟩:=hrs r hrm
    obtain ⟨u0,n0,y0,e0,t0⟩:=hf 0 _ rfl
    obtain ⟨u1,n1,y1,e1,t1⟩:=hf 1 _ rfl
    obtain ⟨u2,n2,y2,e2,t2⟩:=hf 2 _ rfl
    obtain ⟨l,hl2,_⟩:=rdI_of Tryz.underlying61 Tryz.underlying3 (by kernel_rfl) t0
    obtain ⟨a,ha,_,wa⟩:=DataW.trod_int Tryz.underlying3 t1
    obtain ⟨b,hb⟩:=Tr.u8 Tryz.underlying5 (cs:=[u2]) ⟨n2,y2,t2⟩
    injection ha with ha; injection hb with hb
    subst ha; subst hb
    refine ⟨⟨l,u0,a,b⟩,?_,hl2⟩
    match r,hl with
    | [r0,r1,r2],_ =>
      simp at e0 e1 e2
      subst e0; subst e1; subst e2
      rfl
  subst hcs
  rw [List.length_map] at hr hm
  refine ⟨cs.map (·.2),⟨?_,fun c hc => ?_⟩,by simpa using hm⟩
  · have he : recC fileC (cs.map (·.2)) = (cs.map (·.1)).flatten:=by
      unfold recC
      rw [List.map_map]
      congr 1
      refine List.map_congr_left fun p hpm => ?_
      exact (hp p hpm).1.symm
    rw [he,List.length_map]
    exact hr
  · simp only [List.mem_map] at hc
    obtain ⟨p,hpm,rfl⟩:=hc
    exact (hp p hpm).2
theorem bulk_len (l : List (DataW H)) : l.length ≤ Rows.uptoBulkAll l:=by
  induction l with
  | nil => simp [Rows.uptoBulkAll]
  | cons x r ih =>
    have : 1 ≤ Rows.uptoBulk x:=by
      cases x with
      | lit l => cases l <;> simp [Rows.uptoBulk]
      | nil => simp [Rows.uptoBulk]
      | ptr d => simp [Rows.uptoBulk]
      | slice elems spare => simp [Rows.uptoBulk]
      | agg parts => simp [Rows.uptoBulk]
      | iface t d => simp [Rows.uptoBulk]
      | map entries => simp [Rows.uptoBulk]
      | held h => simp [Rows.uptoBulk]
    simp only [Rows.uptoBulkAll,List.length_cons]
    omega
theorem bulk_slice {t e : TypeId} {fuel : Nat} {d : DataW H} {ps : List MemPlace} (ht : Tryz.prog.underlying t = some (.slice e)) (h : DataW.trod enc Tryz.prog w base spare held fuel t [v] = some (d,ps))
    {n size : Nat} {xs : List Value} (hr : Rd w size v n xs) : n ≤ Rows.uptoBulk d:=by
  obtain ⟨_,A,c,hv,_⟩:=hr
  rcases open_slice ht h with ⟨h1,_⟩ | ⟨a,len,cap,m,k,D,Pl,h1,hb2,hl,hm,hmm,hx,hi⟩
  · injection h1 with h1
    rw [hv] at h1
    injection h1 with _ h1 _
    omega
  · injection h1 with h1
    rw [hv] at h1
    injection h1 with _ h1 _
    subst h1
    injection hx with hx _
    rw [hx]
    simp only [Rows.uptoBulk]
    refine Nat.le_trans ?_ (Nat.le_add_right _ 1)
    refine Nat.le_trans ?_ (Nat.le_add_right _ _)
    refine Nat.le_trans ?_ (bulk_len _)
    simp
end
open Go.RowKit
theorem treeDiffs_any (W : World) (hT : ∀ h,orig W h → tabsP h) (v0 : Value) (l0 : List FV) (hr0 : Rd W 3 v0 l0.length (recC fileC l0) ∧ ∀ f ∈ l0,Rd W 1 f.2.1 f.1.length (is f.1)) (hl0 : l0.length ≤ maxLen) (hs0 : l0.length ≤ 1048576)
    (v1 : Value) (l1 : List FV) (hr1 : Rd W 3 v1 l1.length (recC fileC l1) ∧ ∀ f ∈ l1,Rd W 1 f.2.1 f.1.length (is f.1)) (hl1 : l1.length ≤ maxLen) (hs1 : l1.length ≤ 1048576) :
    Calls Tryz.prog 7 #[v0,v1] W fun e W' => e = .returned (.bool true) ∧ Chg [] W W' :=
  calls_law ((diffs_spec v0 l0 hs0 v1 l1 hs1 (orig W) (fun h hp => Rd.orig hr0.1 h hp) (fun h hp f hf => Rd.orig (hr0.2 f hf) h hp) (fun h hp => Rd.orig hr1.1 h hp) (fun h hp f hf => Rd.orig (hr1.2 f hf) h hp) hT).imp fun v Ps h => h.1)
end Go.Proofs.YthkdkmaacjpneaaGreatDoor
/- What the row's list gives: the library's two tables; a world that holds them. -/
namespace Go.Proofs.YthkdkmaacjpneaaGreatDoor
open Go.RowKit Go.Lib
set_option maxRecDepth 100000
theorem first_eq : Go.Pinned.utf8First = firstData:=by kernel_rfl
theorem accept_eq : (Rows.laid_unicode_utf8_acceptRanges : DataW Unit) = acceptData:=by kernel_rfl
def laidL : List (String × DataW Unit):=[("unicode/utf8.acceptRanges",Rows.laid_unicode_utf8_acceptRanges),("unicode/utf8.first",Rows.laid_unicode_utf8_first)]
theorem tabs_of_laid {W : World} (h : laidMetH Tryz.prog laidL W) (hsh : W.ShapedOpen Tryz.prog) : ∀ h,orig W h → tabsP h:=by
  rw [MakeChecks.laidMetH_plain _ _ _ (by kernel_rfl)] at h
  have h3 : VarReads Tryz.prog W "unicode/utf8.first" firstData:=by
    rw [← first_eq]
    exact laidMet.reads h (List.mem_cons_of_mem _ List.mem_cons_self)
  have h4 : VarReads Tryz.prog W "unicode/utf8.acceptRanges" acceptData:=by
    rw [← accept_eq]
    exact laidMet.reads h List.mem_cons_self
  refine orig_tabs (utf8Tabs_of_reads lays260 laysU h3 h4) ?_
  exact cell_of_shapedOpen_int (zero:=#[.int .i64 0]) (t:=3) hsh (of_decide_eq_true (by kernel_rfl)) (by kernel_rfl) rfl (by kernel_rfl) (by kernel_rfl) Tryz.underlying3
def lay (cs : List Value) : Obj → Obj
  | .cells _ t frozen => .cells cs.toArray t frozen
  | o => o
def firstCells : List Value:=(List.range 256).map fun c => Value.int .u8 (firstT c : Int)
def acceptCells : List Value:=((List.range 16).map fun i => [Value.int .u8 (accLo i : Int),Value.int .u8 (accHi i : Int)]).flatten
noncomputable def laidWorld (os : Os) : World :=
  { World.holding Tryz.prog os ⟨#[],#[],[]⟩ with heap:=((World.holding Tryz.prog os ⟨#[],#[],[]⟩).heap.modify 1 (lay firstCells)).modify 2 (lay acceptCells) }
theorem laid_met (os : Os) (args : Array Value) : laidMet Tryz.prog laidL ((laidWorld os).forCall (fun _ _ => 0) ⟨#[],args,[]⟩).memory :=
  laidMet_of_run' 8 (by kernel_rfl) (by kernel_rfl)
end Go.Proofs.YthkdkmaacjpneaaGreatDoor
