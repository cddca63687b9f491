/- Texts of this proof, one behind the other: Blob1, BlobE, BlobF, BlobG, BlobH, BlobI, Blob2, Blob3, Blob4, Dir0, Sl15, NamesC, DirB, DirC, DirD, Dir1, LibN, NamesB. -/
import Derived.Test.YthkdkmaacjpneaaGreatDoorK2
import Derived.Test.YthkdkmaacjpneaaGreatDoorK1
import Derived.Laws.StructEq
import Derived.Deep.AppendSrc
import Derived.Lib.AppendZerosOnto
import Derived.Deep.Upon
import Derived.Shelf.Strings.Split
import Derived.Shelf.Strings.Prefix
import Derived.Shelf.Strings.OnBuilder
set_option linter.unusedVariables false
set_option linter.unusedSimpArgs false
set_option linter.unusedSectionVars false
namespace Go.Proofs.YthkdkmaacjpneaaGreatDoor
theorem numB_four (n : Int) : numB n 4 = [byte (n.fdiv (2 ^ 24)),byte (n.fdiv (2 ^ 16)),byte (n.fdiv (2 ^ 8)),byte n]:=by
  have : n.fdiv 1 = n:=by simp
  simp [numB,List.range_succ,this]
theorem val_four (l : List UInt8) : val l 4 = (at0 l 0).toNat * 2 ^ 24 + (at0 l 1).toNat * 2 ^ 16 + (at0 l 2).toNat * 2 ^ 8 + (at0 l 3).toNat:=by
  simp only [val]; omega
def idTo (l : List UInt8) (k : Nat) : List UInt8:=l.take k ++ List.replicate (32 - k) 0
theorem idTo_zero (l : List UInt8) : idTo l 0 = zeroId:=by simp [idTo,zeroId]
theorem idTo_length (l : List UInt8) {k : Nat} (hl : 32 ≤ l.length) (hk : k ≤ 32) : (idTo l k).length = 32:=by simp [idTo]; omega
theorem idTo_all (l : List UInt8) : idTo l 32 = l.take 32:=by simp [idTo]
theorem idTo_set (l : List UInt8) {k : Nat} (hl : 32 ≤ l.length) (hk : k < 32) : (bs (idTo l k)).set k (bv (at0 l k)) = bs (idTo l (k + 1)):=by
  have e : (bs (idTo l k)).set k (bv (at0 l k)) = bs ((idTo l k).set k (at0 l k)):=by simp [bs,List.map_set]
  rw [e]
  congr 1
  apply List.ext_getElem?
  intro j
  rw [List.getElem?_set]
  unfold idTo
  by_cases h1 : k = j
  · subst h1
    rw [if_pos rfl,if_pos (by simp; omega),List.getElem?_append_left (by simp; omega),List.getElem?_take,if_pos (by omega),List.getElem?_eq_getElem (by omega)]
    simp [at0,show k < l.length by omega]
  · rw [if_neg h1]
    by_cases h2 : j < k
    · rw [List.getElem?_append_left (by simp; omega),List.getElem?_append_left (by simp; omega),List.getElem?_take,List.getElem?_take,if_pos h2,if_pos (by omega)]
    · rw [List.getElem?_append_right (by simp; omega),List.getElem?_append_right (by simp; omega),List.getElem?_replicate,List.getElem?_replicate]
      simp only [List.length_take]
      by_cases h3 : j < 32
      · rw [if_pos (by omega),if_pos (by omega)]
      · rw [if_neg (by omega),if_neg (by omega)]
def innerTo (l : List (List UInt8)) (k : Nat) : List UInt8:=[110,byte l.length] ++ (l.take k).flatten
def innerE (l : List (List UInt8)) : Int:=if l.length = 0 then 1 else if 8 < l.length then 4 else 0
def innerR (l : List (List UInt8)) : List UInt8:=if innerE l = 0 then innerTo l l.length else []
theorem innerTo_succ {l : List (List UInt8)} {k : Nat} (h : k < l.length) : innerTo l (k + 1) = innerTo l k ++ l.getD k []:=by
  unfold innerTo
  rw [List.take_succ_eq_append_getElem h,List.flatten_append,← List.append_assoc]
  congr 1
  simp [h]
theorem flat_ids {l : List (List UInt8)} (h : Ids l) : l.flatten.length = l.length * 32:=by
  induction l with
  | nil => rfl
  | cons x l ih =>
    rw [List.flatten_cons,List.length_append,ih (fun y hy => h y (by simp [hy])),h x (by simp),List.length_cons]
    omega
theorem innerTo_length {l : List (List UInt8)} (h : Ids l) {k : Nat} (hk : k ≤ l.length) : (innerTo l k).length = 2 + k * 32:=by
  unfold innerTo
  rw [List.length_append,flat_ids (h.take k),List.length_take,Nat.min_eq_left hk]
  rfl
def idsOf (b : List UInt8) (n : Nat) : List (List UInt8):=(List.range n).map fun i => (b.drop (2 + i * 32)).take 32
theorem idsOf_length (b : List UInt8) (n : Nat) : (idsOf b n).length = n:=by simp [idsOf]
theorem idsOf_ids {b : List UInt8} {n : Nat} (h : 2 + n * 32 ≤ b.length) : Ids (idsOf b n):=by
  intro x hx
  simp only [idsOf,List.mem_map,List.mem_range] at hx
  obtain ⟨i,hi,rfl⟩:=hx
  simp
  omega
theorem idsOf_succ (b : List UInt8) (n : Nat) : idsOf b (n + 1) = idsOf b n ++ [(b.drop (2 + n * 32)).take 32]:=by simp [idsOf,List.range_succ]
def idsTo (b : List UInt8) (n k : Nat) : List (List UInt8):=idsOf b k ++ List.replicate (n - k) zeroId
theorem idsTo_zero (b : List UInt8) (n : Nat) : idsTo b n 0 = List.replicate n zeroId:=by simp [idsTo,idsOf]
theorem idsTo_all (b : List UInt8) (n : Nat) : idsTo b n n = idsOf b n:=by simp [idsTo]
theorem idsTo_length (b : List UInt8) {n k : Nat} (h : k ≤ n) : (idsTo b n k).length = n:=by simp [idsTo,idsOf_length]; omega
theorem idsTo_ids {b : List UInt8} {n k : Nat} (h : 2 + k * 32 ≤ b.length) : Ids (idsTo b n k):=by
  intro x hx
  simp only [idsTo,List.mem_append] at hx
  rcases hx with hx | hx
  · exact idsOf_ids h x hx
  · rw [List.eq_of_mem_replicate hx]; rfl
theorem idsTo_set {b : List UInt8} {n k : Nat} (hk : k < n) : (idsTo b n k).set k ((b.drop (2 + k * 32)).take 32) = idsTo b n (k + 1):=by
  unfold idsTo
  rw [List.set_append_right _ _ (by rw [idsOf_length]; omega),idsOf_length,Nat.sub_self,idsOf_succ,List.append_assoc]
  congr 1
  rw [show n - k = (n - (k + 1)) + 1 by omega,List.replicate_succ]
  rfl
theorem idsC_step {l : List (List UInt8)} (h : Ids l) {k : Nat} (hk : k < l.length) {y : List UInt8} (hy : 32 ≤ y.length) : over (idsC l) (k * 32) ((bs y).take (min y.length 32)) = idsC (l.set k (y.take 32)):=by
  rw [Nat.min_eq_right hy,← bs_take]
  exact idsC_set h hk (by simp; omega)
def parseNE (b : List UInt8) : Int :=
  if b.length < 2 then 8
  else if at0 b 0 ≠ 110 ∨ (at0 b 1).toNat < 1 ∨ 8 < (at0 b 1).toNat then 11
  else if b.length < 2 + (at0 b 1).toNat * 32 then 8
  else if 2 + (at0 b 1).toNat * 32 < b.length then 9 else 0
def parseNL (b : List UInt8) : List (List UInt8):=if parseNE b = 0 then idsOf b (at0 b 1).toNat else []
theorem parseNE_cut {b : List UInt8} (h : decide ((b.length : Int) < 2) = true) : parseNE b = 8:=by have:=of_decide_eq_true h; unfold parseNE; rw [if_pos (by omega)]
theorem parseNE_bad {b : List UInt8} (h : decide ((b.length : Int) < 2) = false) (h2 : (!decide (((at0 b 0).toNat : Int) = 110) || decide (((at0 b 1).toNat : Int) < 1) || decide (8 < ((at0 b 1).toNat : Int))) = true) : parseNE b = 11:=by
  have:=of_decide_eq_false h
  unfold parseNE
  rw [if_neg (by omega),if_pos]
  simp at h2
  rcases h2 with (h2 | h2) | h2
  · left; intro e; rw [e] at h2; exact h2 rfl
  · right; left; omega
  · right; right; omega
theorem parseN_good {b : List UInt8} (h2 : (!decide (((at0 b 0).toNat : Int) = 110) || decide (((at0 b 1).toNat : Int) < 1) || decide (8 < ((at0 b 1).toNat : Int))) = false) : at0 b 0 = 110 ∧ 1 ≤ (at0 b 1).toNat ∧ (at0 b 1).toNat ≤ 8:=by
  simp at h2
  exact ⟨UInt8.toNat_inj.1 (by have:=h2.1.1; simp; omega),by omega,by omega⟩
theorem parseNE_later {b : List UInt8} (h : decide ((b.length : Int) < 2) = false) (h2 : (!decide (((at0 b 0).toNat : Int) = 110) || decide (((at0 b 1).toNat : Int) < 1) || decide (8 < ((at0 b 1).toNat : Int))) = false) :
    parseNE b = if b.length < 2 + (at0 b 1).toNat * 32 then 8 else if 2 + (at0 b 1).toNat * 32 < b.length then 9 else 0:=by
  have:=of_decide_eq_false h
  obtain ⟨q1,q2,q3⟩:=parseN_good h2
  unfold parseNE
  rw [if_neg (by omega),if_neg]
  rintro (h | h | h)
  · exact h q1
  · omega
  · omega
theorem parseNL_err {b : List UInt8} {e : Int} (h : parseNE b = e) (he : e ≠ 0) : parseNL b = []:=by unfold parseNL; rw [h,if_neg he]
section
variable {a b : List (List UInt8)} {k : Nat}
end
open Go.RowKit
set_option maxRecDepth 8000

theorem refLevels_spec (size : Int) (hs : size ≤ 134217728) (F : HP) : CallsS Tryz.prog 110 #[.int .i64 size] F [] (fun v Ps => v = .int .i64 (lev size : Int) ∧ Ps = []):=by
 refine callsS_enter Tryz.func110 rfl Tryz.ntmps110 (by simp) (fun E => ?_)
 refine Q9 (R9 (G9 rfl rfl (N9 (X9 (Q9 (R9 (G9 rfl rfl (G9 rfl rfl (N9 (X9 (Q9 ?_)))))))))))
 refine W_block ?_
 refine W_loop (α:=Nat) (fun n => [(0,.int .i64 size),(3,.int .i64 (n : Int)),(4,.int .i64 (all8 n))]) (fun n => [(0,F)]) (fun n => n ≤ 7 ∧ (n = 0 ∨ all8 (n - 1) < size)) (fun n => 7 - n) (0) ⟨by omega,.inl rfl⟩ (a9 rfl) ⟨rfl,trivial⟩ (fun x hx => ?_)
 obtain ⟨h7,hlo⟩:=hx
 have hb:=all8_le h7
 have h0:=all8_pos x
 refine Q9 (Q9 (R9 (M9 rfl rfl (M9 rfl rfl (L9 rfl (Pn9 rfl rfl rfl (run_lss _ _ _ _ _ _)) (N9 (X9 ?_)))))))
 refine C9 rfl (fun hc7 => ?_) (fun hc7 => ?_)
 ·
  have hx6 : x + 1 ≤ 7:=by
   have hlt:=of_decide_eq_true hc7
   rcases Nat.lt_or_ge x 7 with h | h
   ·omega
   ·obtain rfl : x = 7:=by omega
    have : all8 7 = 134217728:=rfl
    omega
  refine K9 (X9 ?_)
  refine W_block ?_
  refine Q9 (R9 (M9 rfl rfl (L9 rfl (Pn9 rfl rfl rfl (run_add _ _ _ _ _ (by omega))) (G9 rfl rfl (N9 (X9 (R9 (M9 rfl rfl (L9 rfl (Pn9 rfl rfl rfl (run_mul _ _ _ _ _ (by omega))) (G9 rfl rfl (N9 (X_block ?_))))))))))))
  rw [all8_succ]
  exact Xr9 (x + 1) ⟨hx6,.inr (by simpa using of_decide_eq_true hc7)⟩ (by omega) (a9 rfl) ⟨rfl,trivial⟩
 ·
  have hge:=of_decide_eq_false hc7
  refine W_exit (X_then_exit (X_then_exit (X_block_exit (X9 ?_))))
  refine Q9 (R9 (M9 rfl rfl (G9 rfl rfl (N9 (X9 ?_)))))
  refine W_ret ?_
  exact Xq9 [] (Ps:=[]) (res1 Tryz.results110 rfl) rfl (by decide) ⟨by rw [lev_of h7 hlo (by simp; omega)],rfl⟩
theorem refWrong_spec (k s l : Int) (top : List UInt8) (ht : top.length = 32) (F : HP) : CallsS Tryz.prog 147 #[nodeV k s l top] F [] (fun v Ps => v = .int .i64 (wrongN k s l top) ∧ Ps = []):=by
 refine callsS_enter Tryz.func147 rfl Tryz.ntmps147 (by simp) (fun E => ?_)
 refine Q9 ?_
 refine J9 [(0,_)] [(0,_)] ?_ ⟨rfl,trivial⟩ ⟨rfl,trivial⟩
 refine R9 (Lc9 rfl rfl (by decide) (OpT_box (r:=101) rfl rfl rfl (fun g101 => (G9 rfl rfl (N9 (X9 (Q9 (Q9 ?_))))))))
 refine J9 [(0,_),(1,_),(2,_)] [(0,_),(101,_)] ?_ ⟨rfl,rfl,rfl,trivial⟩ ⟨rfl,rfl,trivial⟩
 refine R9 (L9 rfl (F9 0 rfl rfl) (L9 rfl (Pb9 (r:=101) rfl Tryz.isAgg3 rfl rfl rfl) (L9 rfl (Pn9 rfl rfl rfl (run_neq _ _ _ _ _ _)) (M9 rfl rfl (Lg9 rfl rfl rfl rfl (by decide) (fun hb => (F9 0 rfl rfl)) (Lg9 rfl rfl rfl rfl (by decide) (fun hb => (Pb9 (r:=101) rfl Tryz.isAgg3 (ev_gv rfl hb) rfl rfl)) (Lg9 rfl rfl rfl rfl (by decide) (fun hb => (Pn9 rfl (ev_gv rfl hb) rfl (run_neq _ _ _ _ _ _))) (L9 rfl (Pu_and rfl rfl rfl) (N9 (X9 ?_))))))))))
 refine C9 rfl (fun hc10 => ?_) (fun hc10 => ?_)
 ·
  refine Q9 ?_
  refine J9 [(0,_),(1,_),(2,_),(10,_)] [(0,_),(101,_)] ?_ ⟨rfl,rfl,rfl,rfl,trivial⟩ ⟨rfl,rfl,trivial⟩
  refine R9 (G9 rfl rfl (N9 (X9 ?_)))
  refine W_ret (X_then_ret ?_)
  exact Xq9 [] (Ps:=[]) (res1 Tryz.results147 rfl) rfl (by decide) ⟨int_val (wrongN_kind hc10),rfl⟩
 ·
  refine K9 (X9 ?_)
  refine Q9 (Q9 ?_)
  refine J9 [(0,_),(1,_),(2,_),(10,_)] [(0,_),(101,_)] ?_ ⟨rfl,rfl,rfl,rfl,trivial⟩ ⟨rfl,rfl,trivial⟩
  refine W_draw (N:=27) (by kernel_rfl) rfl [(0,_),(101,_)] ⟨rfl,rfl,trivial⟩ ?_
  refine (T9 0 rfl rfl (F9 1 rfl rfl) (T9 1 rfl rfl (Pb9 (r:=101) rfl Tryz.isAgg3 rfl rfl rfl) (T9 2 rfl rfl (Pn9 rfl rfl rfl (run_lss _ _ _ _ _ _)) (T9 3 rfl rfl (Pm9 rfl rfl) (AH_takeG 4 rfl (by kernel_rfl) (by kernel_rfl) (by kernel_rfl) rfl rfl rfl rfl (by decide) (fun hb => (F9 1 rfl rfl)) (AH_takeG 5 rfl (by kernel_rfl) (by kernel_rfl) (by kernel_rfl) rfl rfl rfl rfl (by decide) (fun hb => (Pb9 (r:=101) rfl Tryz.isAgg3 (ev_gv rfl hb) rfl rfl)) (AH_takeG 6 rfl (by kernel_rfl) (by kernel_rfl) (by kernel_rfl) rfl rfl rfl rfl (by decide) (fun hb => (Pn9 rfl (ev_gv rfl hb) rfl (run_gtr _ _ _ _ _ _))) (T9 7 rfl rfl (Pu_or rfl rfl rfl) (T9 8 rfl rfl (Pm9 rfl rfl) (AH_takeG 9 rfl (by kernel_rfl) (by kernel_rfl) (by kernel_rfl) rfl rfl rfl rfl (by decide) (fun hb => (F9 2 rfl rfl)) (AH_takeG 10 rfl (by kernel_rfl) (by kernel_rfl) (by kernel_rfl) rfl rfl rfl rfl (by decide) (fun hb => (Pb9 (r:=101) rfl Tryz.isAgg3 (ev_gv rfl hb) rfl rfl)) (AH_takeG 11 rfl (by kernel_rfl) (by kernel_rfl) (by kernel_rfl) rfl rfl rfl rfl (by decide) (fun hb => (F9 1 rfl rfl)) (AH_takeG 12 rfl (by kernel_rfl) (by kernel_rfl) (by kernel_rfl) rfl rfl rfl rfl (by decide) (fun hb => (Pb9 (r:=101) rfl Tryz.isAgg3 (ev_gv rfl hb) rfl rfl)) (Y9 [13] ?_))))))))))))))
  refine AHs_consG (V:=.int .i64 (lev s : Int)) rfl rfl rfl rfl rfl (by decide) (fun hb => (Oc9 200 [0,101] [] rfl Tryz.call110 (evL_cons (ev_gv rfl hb) evL_nil) rfl rfl (by decide) (by decide) (refLevels_spec s (by simp at hb; omega) _) (fun v24 Ps24 hR24 => ⟨hR24.1,fun w hw => by rw [hR24.2] at hw; exact hw.sub (AllIn.look ⟨rfl,rfl,trivial⟩)⟩))) ⟨rfl,rfl,trivial⟩ ?_ ?_
  ·
   refine (AH_takeG 14 rfl (by kernel_rfl) (by kernel_rfl) (by kernel_rfl) rfl rfl rfl rfl (by decide) (fun hb => (Pn9 rfl (ev_gv rfl hb) (ev_gv rfl hb) (run_neq _ _ _ _ _ _))) (T9 15 rfl rfl (Pu_or rfl rfl rfl) (T9 16 rfl rfl (Pm9 rfl rfl) (AH_takeG 17 rfl (by kernel_rfl) (by kernel_rfl) (by kernel_rfl) rfl rfl rfl rfl (by decide) (fun hb => (F9 1 rfl rfl)) (AH_takeG 18 rfl (by kernel_rfl) (by kernel_rfl) (by kernel_rfl) rfl rfl rfl rfl (by decide) (fun hb => (Pb9 (r:=101) rfl Tryz.isAgg3 (ev_gv rfl hb) rfl rfl)) (AH_takeG 19 rfl (by kernel_rfl) (by kernel_rfl) (by kernel_rfl) rfl rfl rfl rfl (by decide) (fun hb => (Pn9 rfl (ev_gv rfl hb) rfl (run_eql _ _ _ _ _ _))) (AH_takeG 20 rfl (by kernel_rfl) (by kernel_rfl) (by kernel_rfl) rfl rfl rfl rfl (by decide) (fun hb => (Pm9 rfl (ev_gv rfl hb))) (AH_takeG2 21 rfl (by kernel_rfl) (by kernel_rfl) (by kernel_rfl) rfl rfl rfl rfl (by decide) (fun hb => (F9 3 rfl rfl)) (AH_takeG2 22 rfl (by kernel_rfl) (by kernel_rfl) (by kernel_rfl) rfl rfl rfl rfl (by decide) (fun hb => (Px9 (r:=101) rfl Tryz.isAgg29 Tryz.sizeOf29 (ev_gv rfl hb) rfl (by rw [bs_length,ht]) (by show (bs top).take 32 = _; rw [List.take_of_length_le (by rw [bs_length,ht]; omega)]))) (AH_takeG2 23 rfl (by kernel_rfl) (by kernel_rfl) (by kernel_rfl) rfl rfl rfl rfl (by decide) (fun hb => (Pu_idZero rfl)) (AH_takeG2 24 rfl (by kernel_rfl) (by kernel_rfl) (by kernel_rfl) rfl rfl rfl rfl (by decide) (fun hb => (Pn9 rfl (ev_gv rfl hb) (ev_gv rfl hb) (run_idNe _ _ ht zeroId_length _ _))) (AH_takeG 25 rfl (by kernel_rfl) (by kernel_rfl) (by kernel_rfl) rfl rfl rfl rfl (by decide) (fun hb => (Pu_and2 hb rfl (ev_gv rfl hb) rfl)) (T9 26 rfl rfl (Pu_or rfl rfl rfl) (Ad9 (by kernel_rfl) (X9 ?_)))))))))))))))
   refine C9 rfl (fun hc37 => ?_) (fun hc37 => ?_)
   ·
    refine Q9 ?_
    refine J9 [(0,_),(1,_),(2,_),(10,_),(37,_)] [(0,_),(101,_)] ?_ ⟨rfl,rfl,rfl,rfl,rfl,trivial⟩ ⟨rfl,rfl,trivial⟩
    refine R9 (G9 rfl rfl (N9 (X9 ?_)))
    refine W_ret (X_then_ret ?_)
    exact Xq9 [] (Ps:=[]) (res1 Tryz.results147 rfl) rfl (by decide) ⟨int_val (wrongN_bad hc10 hc37),rfl⟩
   ·
    refine K9 (X9 ?_)
    refine Q9 ?_
    refine J9 [(0,_),(1,_),(2,_),(10,_),(37,_)] [(0,_),(101,_)] ?_ ⟨rfl,rfl,rfl,rfl,rfl,trivial⟩ ⟨rfl,rfl,trivial⟩
    refine R9 (G9 rfl rfl (N9 (X9 ?_)))
    refine W_ret ?_
    exact Xq9 [] (Ps:=[]) (res1 Tryz.results147 rfl) rfl (by decide) ⟨int_val (wrongN_ok hc10 hc37),rfl⟩
  exact An9
theorem refFour_spec (e : TypeId) (he : e = 5) (v : Value) (l : List UInt8) (n : Int) (hl : l.length ≤ 100000000) (F : HP) : CallsS Tryz.prog 148 #[v,.int .i64 n] F [rowB e v l] (fun r Ps => Ps = [rowB e r (l ++ numB n 4)]):=by
 subst he
 unfold rowB
 refine callsS_enter Tryz.func148 rfl Tryz.ntmps148 (by simp) (fun E => ?_)
 refine Q9 (R9 (G9 rfl rfl (N9 (X9 (Q9 (R9 (M9 rfl rfl (M9 rfl rfl (L9 rfl (Pn9 rfl rfl rfl (run_shr _ 24 _ _ _ (by omega))) (L9 rfl (Pu_conv rfl rfl (conv_byte _ _ Tryz.runUnderlying3 Tryz.runUnderlying5)) (M9 rfl rfl (L9 rfl (Pn9 rfl rfl rfl (run_shr _ 16 _ _ _ (by omega))) (L9 rfl (Pu_conv rfl rfl (conv_byte _ _ Tryz.runUnderlying3 Tryz.runUnderlying5)) (M9 rfl rfl (L9 rfl (Pn9 rfl rfl rfl (run_shr _ 8 _ _ _ (by omega))) (L9 rfl (Pu_conv rfl rfl (conv_byte _ _ Tryz.runUnderlying3 Tryz.runUnderlying5)) (M9 rfl rfl (L9 rfl (Pu_conv rfl rfl (conv_byte _ _ Tryz.runUnderlying3 Tryz.runUnderlying5)) (Lc9 rfl rfl (by decide) (OpT_buildOnes (r:=101) (bs (numB n 4)) rfl rfl Tryz.runUnderlying36 Tryz.sizeOf5 Tryz.zeroValue5 rfl rfl (by decide) (by rw [numB_four]; rfl) (bs_cells _) (fun v17 => (Lc9 rfl rfl (by decide) (Oa9 (r:=1) (r2:=101) rfl Tryz.underlying36 TI.hi5 TI.hz5 TI.hs5 TI.hby5 TI.hzs5 (by decide) rfl rfl rfl rfl (fun _ h => rp9 h) (bs_one _) (by unfold maxLen; omega) (by omega) (fun v18 => ?_))))))))))))))))))))))))
 refine (G9 rfl rfl (N9 (X9 ?_)))
 refine W_ret ?_
 exact Xq9 [1] (Ps:=[_]) (res1 Tryz.results148 rfl) rfl (by decide) (congrArg (· :: []) (rowB_of _ (by simp [numB_length]) (by rw [bs_append])))
theorem refGet_spec (v : Value) (l : List UInt8) (F : HP) (hF : ∀ h,F h → rdB v l h) (hl : 4 ≤ l.length) : CallsS Tryz.prog 149 #[v] F [] (fun r Ps => r = .int .i64 (val l 4 : Int) ∧ Ps = []):=by
 refine callsS_enter Tryz.func149 rfl Tryz.ntmps149 (by simp) (fun E => ?_)
 refine Q9 (R9 (G9 rfl rfl (N9 (X9 (Q9 ?_)))))
 refine W_draw (N:=23) (by kernel_rfl) rfl [(0,_)] ⟨rfl,trivial⟩ ?_
 refine (T9 0 rfl rfl (Pm9 rfl rfl) (T9 1 rfl rfl (Pu_idxS1 (r:=0) rfl Tryz.runUnderlying36 Tryz.sizeOf5 rfl rfl rfl hF (by omega)) (T9 2 rfl rfl (Py9 (r:=0) rfl Tryz.isAgg5 rfl rfl hF (bs_at1 (k:=0) (by omega))) (T9 3 rfl rfl (Pu_conv rfl rfl (conv_u8 _ Tryz.runUnderlying5 Tryz.runUnderlying3)) (T9 4 rfl rfl (Pn9 rfl rfl rfl (run_shl _ 24 _ _ _ (by have:=(at0 l 0).toNat_lt; omega) (by omega))) (T9 5 rfl rfl (Pm9 rfl rfl) (T9 6 rfl rfl (Pu_idxS1 (r:=0) rfl Tryz.runUnderlying36 Tryz.sizeOf5 rfl rfl rfl hF (by omega)) (T9 7 rfl rfl (Py9 (r:=0) rfl Tryz.isAgg5 rfl rfl hF (bs_at1 (k:=1) (by omega))) (T9 8 rfl rfl (Pu_conv rfl rfl (conv_u8 _ Tryz.runUnderlying5 Tryz.runUnderlying3)) (T9 9 rfl rfl (Pn9 rfl rfl rfl (run_shl _ 16 _ _ _ (by have:=(at0 l 1).toNat_lt; omega) (by omega))) (T9 10 rfl rfl (Pn9 rfl rfl rfl (run_or _ _ 24 _ _ _ (by have:=(at0 l 0).toNat_lt; have:=(at0 l 1).toNat_lt; have:=(at0 l 2).toNat_lt; have:=(at0 l 3).toNat_lt; omega) (by have:=(at0 l 0).toNat_lt; have:=(at0 l 1).toNat_lt; have:=(at0 l 2).toNat_lt; have:=(at0 l 3).toNat_lt; omega) (by have:=(at0 l 0).toNat_lt; have:=(at0 l 1).toNat_lt; have:=(at0 l 2).toNat_lt; have:=(at0 l 3).toNat_lt; omega) (by omega))) (T9 11 rfl rfl (Pm9 rfl rfl) (T9 12 rfl rfl (Pu_idxS1 (r:=0) rfl Tryz.runUnderlying36 Tryz.sizeOf5 rfl rfl rfl hF (by omega)) (T9 13 rfl rfl (Py9 (r:=0) rfl Tryz.isAgg5 rfl rfl hF (bs_at1 (k:=2) (by omega))) (T9 14 rfl rfl (Pu_conv rfl rfl (conv_u8 _ Tryz.runUnderlying5 Tryz.runUnderlying3)) (T9 15 rfl rfl (Pn9 rfl rfl rfl (run_shl _ 8 _ _ _ (by have:=(at0 l 2).toNat_lt; omega) (by omega))) (T9 16 rfl rfl (Pn9 rfl rfl rfl (run_or _ _ 16 _ _ _ (by have:=(at0 l 0).toNat_lt; have:=(at0 l 1).toNat_lt; have:=(at0 l 2).toNat_lt; have:=(at0 l 3).toNat_lt; omega) (by have:=(at0 l 0).toNat_lt; have:=(at0 l 1).toNat_lt; have:=(at0 l 2).toNat_lt; have:=(at0 l 3).toNat_lt; omega) (by have:=(at0 l 0).toNat_lt; have:=(at0 l 1).toNat_lt; have:=(at0 l 2).toNat_lt; have:=(at0 l 3).toNat_lt; omega) (by omega))) (T9 17 rfl rfl (Pm9 rfl rfl) (T9 18 rfl rfl (Pu_idxS1 (r:=0) rfl Tryz.runUnderlying36 Tryz.sizeOf5 rfl rfl rfl hF (by omega)) (T9 19 rfl rfl (Py9 (r:=0) rfl Tryz.isAgg5 rfl rfl hF (bs_at1 (k:=3) (by omega))) (T9 20 rfl rfl (Pu_conv rfl rfl (conv_u8 _ Tryz.runUnderlying5 Tryz.runUnderlying3)) (T9 21 rfl rfl (Pn9 rfl rfl rfl (run_or _ _ 8 _ _ _ (by have:=(at0 l 0).toNat_lt; have:=(at0 l 1).toNat_lt; have:=(at0 l 2).toNat_lt; have:=(at0 l 3).toNat_lt; omega) (by have:=(at0 l 0).toNat_lt; have:=(at0 l 1).toNat_lt; have:=(at0 l 2).toNat_lt; have:=(at0 l 3).toNat_lt; omega) (by have:=(at0 l 0).toNat_lt; have:=(at0 l 1).toNat_lt; have:=(at0 l 2).toNat_lt; have:=(at0 l 3).toNat_lt; omega) (by omega))) (T9 22 rfl rfl (Pg9 rfl rfl) (Ad9 (by kernel_rfl) (X9 ?_)))))))))))))))))))))))))
 refine W_ret ?_
 exact Xq9 [] (Ps:=[]) (res1 Tryz.results149 rfl) rfl (by decide) ⟨by rw [val_four],rfl⟩
theorem refId_spec (v : Value) (l : List UInt8) (F : HP) (hF : ∀ h,F h → rdB v l h) (hl : 32 ≤ l.length) : CallsS Tryz.prog 150 #[v] F [] (fun r Ps => r = .agg (bs (l.take 32)).toArray ∧ Ps = []):=by
 refine callsS_enter Tryz.func150 rfl Tryz.ntmps150 (by simp) (fun E => ?_)
 refine Q9 (R9 (Lc9 rfl rfl (by decide) (OpT_alloc (r:=101) (cs:=(bs zeroId)) rfl (zero_run (by kernel_rfl : (Tryz.prog.info? 29).bind (·.zero) = some (.agg (bs zeroId).toArray))) rfl (fun g101 => (N9 (X9 (Q9 (R9 (Lc9 rfl rfl (by decide) (OpT_alloc (r:=102) (cs:=(bs zeroId)) rfl (zero_run (by kernel_rfl : (Tryz.prog.info? 29).bind (·.zero) = some (.agg (bs zeroId).toArray))) rfl (fun g102 => (N9 (X9 (Q9 (Q9 (R9 (G9 rfl rfl (N9 (X9 ?_)))))))))))))))))))
 refine W_block ?_
 refine W_loop (α:=Nat) (fun k => [(0,v),(2,.pointer (some ⟨g101,0,none⟩)),(3,.pointer (some ⟨g102,0,none⟩)),(4,.int .i64 (k : Int))]) (fun k => [(0,F),(101,blk g101 29 (bs zeroId)),(102,blk g102 29 (bs (idTo l k)))]) (fun k => k ≤ 32) (fun k => 32 - k) (0) (by omega) (a9 rfl) ⟨rfl,rfl,by rw [idTo_zero]; rfl,trivial⟩ (fun x hx => ?_)
 refine Q9 (Q9 (R9 (M9 rfl rfl (L9 rfl (Pn9 rfl rfl rfl (run_lss _ _ _ _ _ _)) (N9 (X9 ?_))))))
 refine C9 rfl (fun hc6 => ?_) (fun hc6 => ?_)
 ·
  refine K9 (X9 ?_)
  refine Q9 ?_
  refine W_block ?_
  refine R9 (M9 rfl rfl (M9 rfl rfl (M9 rfl rfl (L9 rfl (Pu_idxS1 (r:=0) rfl Tryz.runUnderlying36 Tryz.sizeOf5 rfl rfl rfl hF (by have:=of_decide_eq_true hc6; omega)) (L9 rfl (Py9 (r:=0) rfl Tryz.isAgg5 rfl rfl hF (bs_at1 (k:=x) (by have:=of_decide_eq_true hc6; omega))) (L9 rfl (Pu_idxA rfl Tryz.runUnderlying29 Tryz.sizeOf5 rfl rfl (by have:=of_decide_eq_true hc6; omega)) (Lc09 rfl rfl (OpT_storeB1 (r:=102) rfl Tryz.sizeOf5 rfl rfl rfl rfl (by rw [bs_length,idTo_length l hl hx]; have:=of_decide_eq_true hc6; omega) ((congrArg (fun q => List.set _ q _) (Nat.zero_add _)).trans (idTo_set l hl (by have:=of_decide_eq_true hc6; omega))) ?_))))))))
  refine (N9 (X_block (X9 ?_)))
  refine R9 (M9 rfl rfl (L9 rfl (Pn9 rfl rfl rfl (run_add _ _ _ _ _ (by omega))) (G9 rfl rfl (N9 ?_))))
  exact Xr9 (x + 1) (by have:=of_decide_eq_true hc6; omega) (by have:=of_decide_eq_true hc6; omega) (a9 rfl) (a9 rfl)
 ·
  obtain rfl : x = 32:=by have:=of_decide_eq_false hc6; omega
  refine W_exit (X_then_exit (X_then_exit (X_block_exit (X9 ?_))))
  refine Q9 (R9 (L9 rfl (Px9 (r:=102) rfl Tryz.isAgg29 Tryz.sizeOf29 rfl rfl (by rw [bs_length,idTo_length l hl hx]) (load_all (by rw [bs_length,idTo_length l hl hx]))) (Lc09 rfl rfl (OpT_storeAll (r:=101) rfl Tryz.sizeOf29 rfl rfl rfl rfl (by rw [bs_length,idTo_length l hl hx]) (bs_one _) ?_))))
  refine (N9 (X9 ?_))
  refine W_ret ?_
  exact Xq9 [] (Ps:=[]) (resC1 (r:=101) Tryz.results150 rfl Tryz.isAgg29 Tryz.sizeOf29 rfl (by rw [bs_length,idTo_length l hl hx])) rfl (by decide) ⟨by rw [idTo_all],rfl⟩
open Go.RowKit
set_option maxRecDepth 8000

theorem refInode_spec (k s l : Int) (top : List UInt8) (ht : top.length = 32) (F : HP) : CallsS Tryz.prog 113 #[nodeV k s l top] F [] (fun v Ps => ∃ v',v = .tuple #[v',.int .i64 (wrongN k s l top)] ∧ Ps = [rowB 5 v' (inodeR k s l top)]):=by
 have h6 : ([105,byte k] ++ numB s 4).length = 6:=by simp [numB_length]
 refine callsS_enter Tryz.func113 rfl Tryz.ntmps113 (by simp) (fun E => ?_)
 refine Q9 (R9 (Lc9 rfl rfl (by decide) (OpT_box (r:=101) rfl rfl rfl (fun g101 => (G9 rfl rfl (G9 rfl rfl (N9 (X9 (Q9 (Q9 (R9 (L9 rfl (Px9 (r:=101) rfl Tryz.isAgg42 Tryz.sizeOf42 rfl rfl (nodeC_length ht) (load_all (nodeC_length ht))) (Lc9 rfl rfl (by decide) (Oc9 200 [0,101] [] rfl Tryz.call147 rfl rfl rfl (by decide) (by decide) (refWrong_spec k s l top ht _) (fun v6 Ps6 hR6 => ?_)))))))))))))))
 obtain ⟨rfl,rfl⟩:=hR6
 refine (L9 rfl (Pn9 rfl rfl rfl (run_neq _ _ _ _ _ _)) (N9 (X9 ?_)))
 refine C9 rfl (fun hc7 => ?_) (fun hc7 => ?_)
 ·
  refine Q9 (R9 (L9 rfl (Px9 (r:=101) rfl Tryz.isAgg42 Tryz.sizeOf42 rfl rfl (nodeC_length ht) (load_all (nodeC_length ht))) (Lc9 rfl rfl (by decide) (Oc9 300 [0,101] [] rfl Tryz.call147 rfl rfl rfl (by decide) (by decide) (refWrong_spec k s l top ht _) (fun v9 Ps9 hR9 => ?_)))))
  obtain ⟨rfl,rfl⟩:=hR9
  refine (G9 rfl rfl (G9 rfl rfl (N9 (X9 ?_))))
  refine W_ret (X_then_ret ?_)
  refine X_nilRow 9900 5 1 ?_
  exact Xq9 [9900] (Ps:=[_]) (res2 Tryz.results113 rfl rfl) rfl (by decide) ⟨_,rfl,by rw [inodeR,if_neg (by simpa using hc7)]; rfl⟩
 ·
  refine K9 (X9 ?_)
  refine Q9 ?_
  refine W_draw (N:=13) (by kernel_rfl) rfl [(0,_),(101,_)] ⟨rfl,rfl,trivial⟩ ?_
  refine (T9 0 rfl rfl (F9 0 rfl rfl) (T9 1 rfl rfl (Pb9 (r:=101) rfl Tryz.isAgg3 rfl rfl rfl) (T9 2 rfl rfl (Pu_conv rfl rfl (conv_byte _ _ Tryz.runUnderlying3 Tryz.runUnderlying5)) (T9 4 rfl rfl (F9 1 rfl rfl) (T9 5 rfl rfl (Pb9 (r:=101) rfl Tryz.isAgg3 rfl rfl rfl) (T9 7 rfl rfl (F9 2 rfl rfl) (T9 8 rfl rfl (Pb9 (r:=101) rfl Tryz.isAgg3 rfl rfl rfl) (T9 9 rfl rfl (Pu_conv rfl rfl (conv_byte _ _ Tryz.runUnderlying3 Tryz.runUnderlying5)) (Y9 [3,10] ?_)))))))))
  refine Z9 rfl rfl (OpT_buildOnes (r:=201) (bs [105,byte k]) rfl rfl Tryz.runUnderlying36 Tryz.sizeOf5 Tryz.zeroValue5 rfl rfl (by decide) rfl (bs_cells _) (fun v13 => ⟨⟨rfl,rfl,trivial⟩,?_⟩)) ?_
  ·
   refine (Y9 [6,10] ?_)
   refine Z9 rfl rfl (Oc9 300 [0,101] [201] rfl Tryz.call148 rfl rfl rfl (by decide) (by decide) (refFour_spec 5 rfl _ [105,byte k] s (by simp) _) (fun v16 Ps16 hR16 => ?_)) ?_
   ·
    subst hR16
    refine ⟨⟨rfl,rfl,trivial⟩,?_⟩
    refine (Y9 [10] ?_)
    refine Z9 rfl rfl (OpT_buildOnes (r:=301) (bs [byte l]) rfl rfl Tryz.runUnderlying36 Tryz.sizeOf5 Tryz.zeroValue5 rfl rfl (by decide) rfl (bs_cells _) (fun v20 => ⟨⟨rfl,rfl,trivial⟩,?_⟩)) ?_
    ·
     refine (Y9 [11] ?_)
     refine Z9 rfl rfl (Oa9 (r:=300) (r2:=301) rfl Tryz.underlying36 TI.hi5 TI.hz5 TI.hs5 TI.hby5 TI.hzs5 (by decide) rfl rfl rfl rfl (fun _ h => rp9 h) (bs_one _) (by unfold maxLen; omega) (by omega) (fun v21 => ?_)) ?_
     ·
      refine ⟨⟨rfl,rfl,trivial⟩,?_⟩
      refine (T9 12 rfl rfl (Pg9 rfl rfl) (Ad9 (by kernel_rfl) (X9 ?_)))
      refine Q9 (R9 (M9 rfl rfl (L9 rfl (F9 3 rfl rfl) (L9 rfl (Pu_sliceArr rfl Tryz.runUnderlying29 Tryz.sizeOf5 rfl) (Lc9 rfl rfl (by decide) (Oa9 (r:=300) (r2:=101) rfl Tryz.underlying36 TI.hi5 TI.hz5 TI.hs5 TI.hby5 TI.hzs5 (by decide) rfl rfl rfl rfl (fun _ h => blk_rd (xs:=bs top) h (take_top ht) (by rw [bs_length,ht]) (by omega)) (bs_one _) (by unfold maxLen; omega) (by omega) (fun v25 => ?_)))))))
      refine (G9 rfl rfl (G9 rfl rfl (N9 (X9 ?_))))
      refine W_ret ?_
      exact Xq9 [300] (Ps:=[_]) (res2 Tryz.results113 rfl rfl) rfl (by decide) ⟨_,by simp at hc7; rw [hc7],by rw [inodeR,if_pos (by simpa using hc7)]; exact congrArg (· :: []) (rowB_of _ (by simp [inodeB,numB_length,ht]) (by unfold inodeB; simp only [bs_append]))⟩
     exact An9
    exact An9
   refine Z9 rfl rfl (OpT_buildOnes (r:=202) (bs [byte l]) rfl rfl Tryz.runUnderlying36 Tryz.sizeOf5 Tryz.zeroValue5 rfl rfl (by decide) rfl (bs_cells _) (fun v20 => ⟨⟨rfl,rfl,trivial⟩,?_⟩)) ?_
   ·
    refine (Y9 [6] ?_)
    refine Z9 rfl rfl (Oc9 300 [0,101,202] [201] rfl Tryz.call148 rfl rfl rfl (by decide) (by decide) (refFour_spec 5 rfl _ [105,byte k] s (by simp) _) (fun v16 Ps16 hR16 => ?_)) ?_
    ·
     subst hR16
     refine ⟨⟨rfl,rfl,trivial⟩,?_⟩
     refine (Y9 [11] ?_)
     refine Z9 rfl rfl (Oa9 (r:=300) (r2:=202) rfl Tryz.underlying36 TI.hi5 TI.hz5 TI.hs5 TI.hby5 TI.hzs5 (by decide) rfl rfl rfl rfl (fun _ h => rp9 h) (bs_one _) (by unfold maxLen; omega) (by omega) (fun v21 => ?_)) ?_
     ·
      refine ⟨⟨rfl,rfl,trivial⟩,?_⟩
      refine (T9 12 rfl rfl (Pg9 rfl rfl) (Ad9 (by kernel_rfl) (X9 ?_)))
      refine Q9 (R9 (M9 rfl rfl (L9 rfl (F9 3 rfl rfl) (L9 rfl (Pu_sliceArr rfl Tryz.runUnderlying29 Tryz.sizeOf5 rfl) (Lc9 rfl rfl (by decide) (Oa9 (r:=300) (r2:=101) rfl Tryz.underlying36 TI.hi5 TI.hz5 TI.hs5 TI.hby5 TI.hzs5 (by decide) rfl rfl rfl rfl (fun _ h => blk_rd (xs:=bs top) h (take_top ht) (by rw [bs_length,ht]) (by omega)) (bs_one _) (by unfold maxLen; omega) (by omega) (fun v25 => ?_)))))))
      refine (G9 rfl rfl (G9 rfl rfl (N9 (X9 ?_))))
      refine W_ret ?_
      exact Xq9 [300] (Ps:=[_]) (res2 Tryz.results113 rfl rfl) rfl (by decide) ⟨_,by simp at hc7; rw [hc7],by rw [inodeR,if_pos (by simpa using hc7)]; exact congrArg (· :: []) (rowB_of _ (by simp [inodeB,numB_length,ht]) (by unfold inodeB; simp only [bs_append]))⟩
     exact An9
    exact An9
   exact An9
  refine Z9 rfl rfl (OpT_buildOnes (r:=201) (bs [byte l]) rfl rfl Tryz.runUnderlying36 Tryz.sizeOf5 Tryz.zeroValue5 rfl rfl (by decide) rfl (bs_cells _) (fun v20 => ⟨⟨rfl,rfl,trivial⟩,?_⟩)) ?_
  ·
   refine (Y9 [3] ?_)
   refine Z9 rfl rfl (OpT_buildOnes (r:=202) (bs [105,byte k]) rfl rfl Tryz.runUnderlying36 Tryz.sizeOf5 Tryz.zeroValue5 rfl rfl (by decide) rfl (bs_cells _) (fun v13 => ⟨⟨rfl,rfl,trivial⟩,?_⟩)) ?_
   ·
    refine (Y9 [6] ?_)
    refine Z9 rfl rfl (Oc9 300 [0,101,201] [202] rfl Tryz.call148 rfl rfl rfl (by decide) (by decide) (refFour_spec 5 rfl _ [105,byte k] s (by simp) _) (fun v16 Ps16 hR16 => ?_)) ?_
    ·
     subst hR16
     refine ⟨⟨rfl,rfl,trivial⟩,?_⟩
     refine (Y9 [11] ?_)
     refine Z9 rfl rfl (Oa9 (r:=300) (r2:=201) rfl Tryz.underlying36 TI.hi5 TI.hz5 TI.hs5 TI.hby5 TI.hzs5 (by decide) rfl rfl rfl rfl (fun _ h => rp9 h) (bs_one _) (by unfold maxLen; omega) (by omega) (fun v21 => ?_)) ?_
     ·
      refine ⟨⟨rfl,rfl,trivial⟩,?_⟩
      refine (T9 12 rfl rfl (Pg9 rfl rfl) (Ad9 (by kernel_rfl) (X9 ?_)))
      refine Q9 (R9 (M9 rfl rfl (L9 rfl (F9 3 rfl rfl) (L9 rfl (Pu_sliceArr rfl Tryz.runUnderlying29 Tryz.sizeOf5 rfl) (Lc9 rfl rfl (by decide) (Oa9 (r:=300) (r2:=101) rfl Tryz.underlying36 TI.hi5 TI.hz5 TI.hs5 TI.hby5 TI.hzs5 (by decide) rfl rfl rfl rfl (fun _ h => blk_rd (xs:=bs top) h (take_top ht) (by rw [bs_length,ht]) (by omega)) (bs_one _) (by unfold maxLen; omega) (by omega) (fun v25 => ?_)))))))
      refine (G9 rfl rfl (G9 rfl rfl (N9 (X9 ?_))))
      refine W_ret ?_
      exact Xq9 [300] (Ps:=[_]) (res2 Tryz.results113 rfl rfl) rfl (by decide) ⟨_,by simp at hc7; rw [hc7],by rw [inodeR,if_pos (by simpa using hc7)]; exact congrArg (· :: []) (rowB_of _ (by simp [inodeB,numB_length,ht]) (by unfold inodeB; simp only [bs_append]))⟩
     exact An9
    exact An9
   exact An9
  exact An9
theorem refParseInode_spec (v : Value) (l : List UInt8) (F : HP) (hF : ∀ h,F h → rdB v l h) : CallsS Tryz.prog 116 #[v] F [] (fun r Ps => r = .tuple #[nodeV (parseI l).1.1 (parseI l).1.2.1 (parseI l).1.2.2.1 (parseI l).1.2.2.2,.int .i64 (parseI l).2] ∧ Ps = []):=by
 refine callsS_enter Tryz.func116 rfl Tryz.ntmps116 (by simp) (fun E => ?_)
 refine Q9 ?_
 refine J9 [(0,_)] [(0,_)] ?_ ⟨rfl,trivial⟩ ⟨rfl,trivial⟩
 refine R9 (Lc9 rfl rfl (by decide) (OpT_alloc (r:=101) rfl (zero_run (by kernel_rfl : (Tryz.prog.info? 42).bind (·.zero) = some (.agg (nodeC 0 0 0 zeroId).toArray))) rfl (fun g101 => (G9 rfl rfl (N9 (X9 (Q9 (Q9 ?_))))))))
 refine J9 [(0,_),(2,_),(3,_)] [(0,_),(101,_)] ?_ ⟨rfl,rfl,rfl,trivial⟩ ⟨rfl,rfl,trivial⟩
 refine R9 (M9 rfl rfl (L9 rfl (Pl9 (r:=0) rfl Tryz.runUnderlying36 rfl rfl hF) (L9 rfl (Pn9 rfl rfl rfl (run_lss _ _ _ _ _ _)) (N9 (X9 ?_)))))
 refine C9 rfl (fun hc7 => ?_) (fun hc7 => ?_)
 ·
  have h39:=of_decide_eq_true hc7
  refine Q9 ?_
  refine J9 [(0,_),(2,_),(3,_),(7,_)] [(0,_),(101,_)] ?_ ⟨rfl,rfl,rfl,rfl,trivial⟩ ⟨rfl,rfl,trivial⟩
  refine R9 (L9 rfl (Pu_build (V:=_) [(0,1),(1,1),(2,1),(3,32)] (nodeC 0 0 0 zeroId) rfl rfl (by kernel_rfl) (by kernel_rfl) (.nil _) rfl) (Lc09 rfl rfl (OpT_storeAll (r:=101) rfl Tryz.sizeOf42 rfl rfl rfl (by simp [nodeC,bs_length,zeroId_length, *]) (by simp [nodeC,bs_length,zeroId_length, *]) (one_node _ _ _ _) ?_)))
  refine (G9 rfl rfl (N9 (X9 ?_)))
  refine W_ret (X_then_ret ?_)
  exact Xq9 [] (Ps:=[]) (resC2 (r:=101) Tryz.results116 rfl rfl Tryz.isAgg42 Tryz.sizeOf42 rfl (nodeC_length zeroId_length)) rfl (by decide) ⟨by rw [parseI_cut h39]; rfl,rfl⟩
 ·
  have h39 : 39 ≤ l.length:=by have:=of_decide_eq_false hc7; omega
  have htop:=parsed_top h39
  refine K9 (X9 ?_)
  refine Q9 ?_
  refine J9 [(0,_),(2,_),(3,_),(7,_)] [(0,_),(101,_)] ?_ ⟨rfl,rfl,rfl,rfl,trivial⟩ ⟨rfl,rfl,trivial⟩
  refine W_draw (N:=17) (by kernel_rfl) rfl [(0,_),(101,_)] ⟨rfl,rfl,trivial⟩ ?_
  refine (T9 0 rfl rfl (Pm9 rfl rfl) (T9 1 rfl rfl (Pu_idxS1 (r:=0) rfl Tryz.runUnderlying36 Tryz.sizeOf5 rfl rfl rfl hF (by omega)) (T9 2 rfl rfl (Py9 (r:=0) rfl Tryz.isAgg5 rfl rfl hF (bs_at1 (k:=1) (by omega))) (T9 3 rfl rfl (Pu_conv rfl rfl (conv_u8 _ Tryz.runUnderlying5 Tryz.runUnderlying3)) (T9 4 rfl rfl (Pm9 rfl rfl) (T9 5 rfl rfl (Pu_slice (r:=0) (a:=2) (b:=l.length) rfl Tryz.runUnderlying36 Tryz.sizeOf5 rfl rfl hF (.inr ⟨_,_,_,rfl,rfl,rfl⟩) (.inl ⟨rfl,rfl⟩) (by omega) (Nat.le_refl _)) (T9 7 rfl rfl (Pm9 rfl rfl) (T9 8 rfl rfl (Pu_idxS1 (r:=0) rfl Tryz.runUnderlying36 Tryz.sizeOf5 rfl rfl rfl hF (by omega)) (T9 9 rfl rfl (Py9 (r:=0) rfl Tryz.isAgg5 rfl rfl hF (bs_at1 (k:=6) (by omega))) (T9 10 rfl rfl (Pu_conv rfl rfl (conv_u8 _ Tryz.runUnderlying5 Tryz.runUnderlying3)) (T9 11 rfl rfl (Pm9 rfl rfl) (T9 12 rfl rfl (Pu_slice (r:=0) (a:=7) (b:=l.length) rfl Tryz.runUnderlying36 Tryz.sizeOf5 rfl rfl hF (.inr ⟨_,_,_,rfl,rfl,rfl⟩) (.inl ⟨rfl,rfl⟩) (by omega) (Nat.le_refl _)) (Y9 [6,15] ?_)))))))))))))
  refine Z9 rfl rfl (Oc9 200 [0,101] [] rfl Tryz.call149 rfl rfl rfl (by decide) (by decide) (refGet_spec _ (l.drop 2) _ (rs9 0 rfl (fun h hp => rdB_tail (hF h hp) (by omega))) (by simp; omega)) (fun v15 Ps15 hR15 => ?_)) ?_
  ·
   obtain ⟨rfl,rfl⟩:=hR15
   refine ⟨⟨rfl,rfl,trivial⟩,?_⟩
   refine (Y9 [13,15] ?_)
   refine Z9 rfl rfl (Oc9 300 [0,101] [] rfl Tryz.call150 rfl rfl rfl (by decide) (by decide) (refId_spec _ (l.drop 7) _ (rs9 0 rfl (fun h hp => rdB_tail (hF h hp) (by omega))) (by simp; omega)) (fun v22 Ps22 hR22 => ?_)) ?_
   ·
    obtain ⟨rfl,rfl⟩:=hR22
    refine ⟨⟨rfl,rfl,trivial⟩,?_⟩
    refine (T9 14 rfl rfl (Pu_build (V:=nodeV (at0 l 1).toNat (val (l.drop 2) 4) (at0 l 6).toNat ((l.drop 7).take 32)) [(0,1),(1,1),(2,1),(3,32)] (nodeC 0 0 0 zeroId) rfl rfl (by kernel_rfl) (by kernel_rfl) (.one rfl rfl (by simp [nodeC,bs_length,zeroId_length]) rfl (.one rfl rfl (by simp [nodeC,bs_length,zeroId_length]) rfl (.one rfl rfl (by simp [nodeC,bs_length,zeroId_length]) rfl (.many rfl (by rw [bs_length,htop]) (by simp [nodeC,bs_length,zeroId_length]) rfl (.nil _))))) (congrArg (fun q => Value.agg (List.toArray q)) (node_over zeroId_length htop))) (Y9 [15] ?_))
    refine Z9 rfl rfl (OpT_alloc (r:=301) rfl (zero_run (by kernel_rfl : (Tryz.prog.info? 42).bind (·.zero) = some (.agg (nodeC 0 0 0 zeroId).toArray))) rfl (fun g301 => ⟨⟨rfl,rfl,trivial⟩,?_⟩)) ?_
    ·
     refine (Y9 [16] ?_)
     refine Ac09 rfl rfl rfl (OpT_storeAll (r:=301) rfl Tryz.sizeOf42 rfl rfl rfl rfl (nodeC_length htop) (one_node _ _ _ _) ?_) ?_
     ·
      refine ⟨⟨rfl,rfl,trivial⟩,?_⟩
      refine (Ad9 (by kernel_rfl) (X9 ?_))
      refine Q9 (Q9 ?_)
      refine J9 [(0,_),(2,_),(3,_),(4,_),(7,_)] [(0,_),(101,_),(301,_)] ?_ ⟨rfl,rfl,rfl,rfl,rfl,trivial⟩ ⟨rfl,rfl,rfl,trivial⟩
      refine R9 (M9 rfl rfl (L9 rfl (Pu_idxS1 (r:=0) rfl Tryz.runUnderlying36 Tryz.sizeOf5 rfl rfl rfl hF (by omega)) (L9 rfl (Py9 (r:=0) rfl Tryz.isAgg5 rfl rfl hF (bs_at1 (k:=0) (by omega))) (L9 rfl (Pn9 rfl rfl rfl (run_neq _ _ _ _ _ _)) (M9 rfl rfl (Lg9 rfl rfl rfl rfl (by decide) (fun hb => (Px9 (r:=301) rfl Tryz.isAgg42 Tryz.sizeOf42 rfl rfl (nodeC_length htop) (load_all (nodeC_length htop)))) (WL_guard (V:=.int .i64 (wrongN (parsed l).1 (parsed l).2.1 (parsed l).2.2.1 (parsed l).2.2.2)) rfl rfl rfl rfl (by decide) (fun hb => (Oc9 400 [0,101,301] [] rfl Tryz.call147 (evL_cons (ev_gv rfl hb) evL_nil) rfl rfl (by decide) (by decide) (refWrong_spec _ _ _ _ htop _) (fun v30 Ps30 hR30 => ⟨hR30.1,fun w hw => by rw [hR30.2] at hw; exact hw.sub (AllIn.look ⟨rfl,rfl,rfl,trivial⟩)⟩))) ?_)))))))
      refine (Lg9 rfl rfl rfl rfl (by decide) (fun hb => (Pn9 rfl (ev_gv rfl hb) rfl (run_neq _ _ _ _ _ _))) (L9 rfl (Pu_or rfl rfl rfl) (N9 (X9 ?_))))
      refine C9 rfl (fun hc32 => ?_) (fun hc32 => ?_)
      ·
       refine Q9 ?_
       refine J9 [(0,_),(2,_),(3,_),(4,_),(7,_),(32,_)] [(0,_),(101,_),(301,_)] ?_ ⟨rfl,rfl,rfl,rfl,rfl,rfl,trivial⟩ ⟨rfl,rfl,rfl,trivial⟩
       refine R9 (L9 rfl (Pu_build (V:=_) [(0,1),(1,1),(2,1),(3,32)] (nodeC 0 0 0 zeroId) rfl rfl (by kernel_rfl) (by kernel_rfl) (.nil _) rfl) (Lc09 rfl rfl (OpT_storeAll (r:=101) rfl Tryz.sizeOf42 rfl rfl rfl (by simp [nodeC,bs_length,zeroId_length, *]) (by simp [nodeC,bs_length,zeroId_length, *]) (one_node _ _ _ _) ?_)))
       refine (G9 rfl rfl (N9 (X9 ?_)))
       refine W_ret (X_then_ret ?_)
       exact Xq9 [] (Ps:=[]) (resC2 (r:=101) Tryz.results116 rfl rfl Tryz.isAgg42 Tryz.sizeOf42 rfl (nodeC_length zeroId_length)) rfl (by decide) ⟨by rw [parseI_bad h39 hc32]; rfl,rfl⟩
      ·
       refine K9 (X9 ?_)
       refine Q9 (Q9 ?_)
       refine J9 [(0,_),(2,_),(3,_),(4,_),(7,_),(32,_)] [(0,_),(101,_),(301,_)] ?_ ⟨rfl,rfl,rfl,rfl,rfl,rfl,trivial⟩ ⟨rfl,rfl,rfl,trivial⟩
       refine R9 (M9 rfl rfl (L9 rfl (Pl9 (r:=0) rfl Tryz.runUnderlying36 rfl rfl hF) (L9 rfl (Pn9 rfl rfl rfl (run_gtr _ _ _ _ _ _)) (N9 (X9 ?_)))))
       refine C9 rfl (fun hc36 => ?_) (fun hc36 => ?_)
       ·
        refine Q9 ?_
        refine J9 [(0,_),(2,_),(3,_),(4,_),(7,_),(32,_),(36,_)] [(0,_),(101,_),(301,_)] ?_ ⟨rfl,rfl,rfl,rfl,rfl,rfl,rfl,trivial⟩ ⟨rfl,rfl,rfl,trivial⟩
        refine R9 (L9 rfl (Pu_build (V:=_) [(0,1),(1,1),(2,1),(3,32)] (nodeC 0 0 0 zeroId) rfl rfl (by kernel_rfl) (by kernel_rfl) (.nil _) rfl) (Lc09 rfl rfl (OpT_storeAll (r:=101) rfl Tryz.sizeOf42 rfl rfl rfl (by simp [nodeC,bs_length,zeroId_length, *]) (by simp [nodeC,bs_length,zeroId_length, *]) (one_node _ _ _ _) ?_)))
        refine (G9 rfl rfl (N9 (X9 ?_)))
        refine W_ret (X_then_ret ?_)
        exact Xq9 [] (Ps:=[]) (resC2 (r:=101) Tryz.results116 rfl rfl Tryz.isAgg42 Tryz.sizeOf42 rfl (nodeC_length zeroId_length)) rfl (by decide) ⟨by rw [parseI_more h39 hc32 hc36]; rfl,rfl⟩
       ·
        refine K9 (X9 ?_)
        refine Q9 ?_
        refine J9 [(0,_),(2,_),(3,_),(4,_),(7,_),(32,_),(36,_)] [(0,_),(101,_),(301,_)] ?_ ⟨rfl,rfl,rfl,rfl,rfl,rfl,rfl,trivial⟩ ⟨rfl,rfl,rfl,trivial⟩
        refine R9 (L9 rfl (Px9 (r:=301) rfl Tryz.isAgg42 Tryz.sizeOf42 rfl rfl (nodeC_length htop) (load_all (nodeC_length htop))) (Lc09 rfl rfl (OpT_storeAll (r:=101) rfl Tryz.sizeOf42 rfl rfl rfl rfl (nodeC_length htop) (one_node _ _ _ _) ?_)))
        refine (G9 rfl rfl (N9 (X9 ?_)))
        refine W_ret ?_
        exact Xq9 [] (Ps:=[]) (resC2 (r:=101) Tryz.results116 rfl rfl Tryz.isAgg42 Tryz.sizeOf42 rfl (nodeC_length htop)) rfl (by decide) ⟨by rw [parseI_ok h39 hc32 hc36]; rfl,rfl⟩
     exact An9
    exact An9
   refine Z9 rfl rfl (OpT_alloc (r:=201) rfl (zero_run (by kernel_rfl : (Tryz.prog.info? 42).bind (·.zero) = some (.agg (nodeC 0 0 0 zeroId).toArray))) rfl (fun g201 => ⟨⟨rfl,rfl,trivial⟩,?_⟩)) ?_
   ·
    refine (Y9 [13] ?_)
    refine Z9 rfl rfl (Oc9 300 [0,101,201] [] rfl Tryz.call150 rfl rfl rfl (by decide) (by decide) (refId_spec _ (l.drop 7) _ (rs9 0 rfl (fun h hp => rdB_tail (hF h hp) (by omega))) (by simp; omega)) (fun v22 Ps22 hR22 => ?_)) ?_
    ·
     obtain ⟨rfl,rfl⟩:=hR22
     refine ⟨⟨rfl,rfl,trivial⟩,?_⟩
     refine (T9 14 rfl rfl (Pu_build (V:=nodeV (at0 l 1).toNat (val (l.drop 2) 4) (at0 l 6).toNat ((l.drop 7).take 32)) [(0,1),(1,1),(2,1),(3,32)] (nodeC 0 0 0 zeroId) rfl rfl (by kernel_rfl) (by kernel_rfl) (.one rfl rfl (by simp [nodeC,bs_length,zeroId_length]) rfl (.one rfl rfl (by simp [nodeC,bs_length,zeroId_length]) rfl (.one rfl rfl (by simp [nodeC,bs_length,zeroId_length]) rfl (.many rfl (by rw [bs_length,htop]) (by simp [nodeC,bs_length,zeroId_length]) rfl (.nil _))))) (congrArg (fun q => Value.agg (List.toArray q)) (node_over zeroId_length htop))) (Y9 [16] ?_))
     refine Ac09 rfl rfl rfl (OpT_storeAll (r:=201) rfl Tryz.sizeOf42 rfl rfl rfl rfl (nodeC_length htop) (one_node _ _ _ _) ?_) ?_
     ·
      refine ⟨⟨rfl,rfl,trivial⟩,?_⟩
      refine (Ad9 (by kernel_rfl) (X9 ?_))
      refine Q9 (Q9 ?_)
      refine J9 [(0,_),(2,_),(3,_),(4,_),(7,_)] [(0,_),(101,_),(201,_)] ?_ ⟨rfl,rfl,rfl,rfl,rfl,trivial⟩ ⟨rfl,rfl,rfl,trivial⟩
      refine R9 (M9 rfl rfl (L9 rfl (Pu_idxS1 (r:=0) rfl Tryz.runUnderlying36 Tryz.sizeOf5 rfl rfl rfl hF (by omega)) (L9 rfl (Py9 (r:=0) rfl Tryz.isAgg5 rfl rfl hF (bs_at1 (k:=0) (by omega))) (L9 rfl (Pn9 rfl rfl rfl (run_neq _ _ _ _ _ _)) (M9 rfl rfl (Lg9 rfl rfl rfl rfl (by decide) (fun hb => (Px9 (r:=201) rfl Tryz.isAgg42 Tryz.sizeOf42 rfl rfl (nodeC_length htop) (load_all (nodeC_length htop)))) (WL_guard (V:=.int .i64 (wrongN (parsed l).1 (parsed l).2.1 (parsed l).2.2.1 (parsed l).2.2.2)) rfl rfl rfl rfl (by decide) (fun hb => (Oc9 400 [0,101,201] [] rfl Tryz.call147 (evL_cons (ev_gv rfl hb) evL_nil) rfl rfl (by decide) (by decide) (refWrong_spec _ _ _ _ htop _) (fun v30 Ps30 hR30 => ⟨hR30.1,fun w hw => by rw [hR30.2] at hw; exact hw.sub (AllIn.look ⟨rfl,rfl,rfl,trivial⟩)⟩))) ?_)))))))
      refine (Lg9 rfl rfl rfl rfl (by decide) (fun hb => (Pn9 rfl (ev_gv rfl hb) rfl (run_neq _ _ _ _ _ _))) (L9 rfl (Pu_or rfl rfl rfl) (N9 (X9 ?_))))
      refine C9 rfl (fun hc32 => ?_) (fun hc32 => ?_)
      ·
       refine Q9 ?_
       refine J9 [(0,_),(2,_),(3,_),(4,_),(7,_),(32,_)] [(0,_),(101,_),(201,_)] ?_ ⟨rfl,rfl,rfl,rfl,rfl,rfl,trivial⟩ ⟨rfl,rfl,rfl,trivial⟩
       refine R9 (L9 rfl (Pu_build (V:=_) [(0,1),(1,1),(2,1),(3,32)] (nodeC 0 0 0 zeroId) rfl rfl (by kernel_rfl) (by kernel_rfl) (.nil _) rfl) (Lc09 rfl rfl (OpT_storeAll (r:=101) rfl Tryz.sizeOf42 rfl rfl rfl (by simp [nodeC,bs_length,zeroId_length, *]) (by simp [nodeC,bs_length,zeroId_length, *]) (one_node _ _ _ _) ?_)))
       refine (G9 rfl rfl (N9 (X9 ?_)))
       refine W_ret (X_then_ret ?_)
       exact Xq9 [] (Ps:=[]) (resC2 (r:=101) Tryz.results116 rfl rfl Tryz.isAgg42 Tryz.sizeOf42 rfl (nodeC_length zeroId_length)) rfl (by decide) ⟨by rw [parseI_bad h39 hc32]; rfl,rfl⟩
      ·
       refine K9 (X9 ?_)
       refine Q9 (Q9 ?_)
       refine J9 [(0,_),(2,_),(3,_),(4,_),(7,_),(32,_)] [(0,_),(101,_),(201,_)] ?_ ⟨rfl,rfl,rfl,rfl,rfl,rfl,trivial⟩ ⟨rfl,rfl,rfl,trivial⟩
       refine R9 (M9 rfl rfl (L9 rfl (Pl9 (r:=0) rfl Tryz.runUnderlying36 rfl rfl hF) (L9 rfl (Pn9 rfl rfl rfl (run_gtr _ _ _ _ _ _)) (N9 (X9 ?_)))))
       refine C9 rfl (fun hc36 => ?_) (fun hc36 => ?_)
       ·
        refine Q9 ?_
        refine J9 [(0,_),(2,_),(3,_),(4,_),(7,_),(32,_),(36,_)] [(0,_),(101,_),(201,_)] ?_ ⟨rfl,rfl,rfl,rfl,rfl,rfl,rfl,trivial⟩ ⟨rfl,rfl,rfl,trivial⟩
        refine R9 (L9 rfl (Pu_build (V:=_) [(0,1),(1,1),(2,1),(3,32)] (nodeC 0 0 0 zeroId) rfl rfl (by kernel_rfl) (by kernel_rfl) (.nil _) rfl) (Lc09 rfl rfl (OpT_storeAll (r:=101) rfl Tryz.sizeOf42 rfl rfl rfl (by simp [nodeC,bs_length,zeroId_length, *]) (by simp [nodeC,bs_length,zeroId_length, *]) (one_node _ _ _ _) ?_)))
        refine (G9 rfl rfl (N9 (X9 ?_)))
        refine W_ret (X_then_ret ?_)
        exact Xq9 [] (Ps:=[]) (resC2 (r:=101) Tryz.results116 rfl rfl Tryz.isAgg42 Tryz.sizeOf42 rfl (nodeC_length zeroId_length)) rfl (by decide) ⟨by rw [parseI_more h39 hc32 hc36]; rfl,rfl⟩
       ·
        refine K9 (X9 ?_)
        refine Q9 ?_
        refine J9 [(0,_),(2,_),(3,_),(4,_),(7,_),(32,_),(36,_)] [(0,_),(101,_),(201,_)] ?_ ⟨rfl,rfl,rfl,rfl,rfl,rfl,rfl,trivial⟩ ⟨rfl,rfl,rfl,trivial⟩
        refine R9 (L9 rfl (Px9 (r:=201) rfl Tryz.isAgg42 Tryz.sizeOf42 rfl rfl (nodeC_length htop) (load_all (nodeC_length htop))) (Lc09 rfl rfl (OpT_storeAll (r:=101) rfl Tryz.sizeOf42 rfl rfl rfl rfl (nodeC_length htop) (one_node _ _ _ _) ?_)))
        refine (G9 rfl rfl (N9 (X9 ?_)))
        refine W_ret ?_
        exact Xq9 [] (Ps:=[]) (resC2 (r:=101) Tryz.results116 rfl rfl Tryz.isAgg42 Tryz.sizeOf42 rfl (nodeC_length htop)) rfl (by decide) ⟨by rw [parseI_ok h39 hc32 hc36]; rfl,rfl⟩
     exact An9
    exact An9
   exact An9
  refine Z9 rfl rfl (OpT_alloc (r:=102) rfl (zero_run (by kernel_rfl : (Tryz.prog.info? 42).bind (·.zero) = some (.agg (nodeC 0 0 0 zeroId).toArray))) rfl (fun g102 => ⟨⟨rfl,rfl,trivial⟩,?_⟩)) ?_
  ·
   refine (Y9 [6] ?_)
   refine Z9 rfl rfl (Oc9 200 [0,101,102] [] rfl Tryz.call149 rfl rfl rfl (by decide) (by decide) (refGet_spec _ (l.drop 2) _ (rs9 0 rfl (fun h hp => rdB_tail (hF h hp) (by omega))) (by simp; omega)) (fun v15 Ps15 hR15 => ?_)) ?_
   ·
    obtain ⟨rfl,rfl⟩:=hR15
    refine ⟨⟨rfl,rfl,trivial⟩,?_⟩
    refine (Y9 [13] ?_)
    refine Z9 rfl rfl (Oc9 300 [0,101,102] [] rfl Tryz.call150 rfl rfl rfl (by decide) (by decide) (refId_spec _ (l.drop 7) _ (rs9 0 rfl (fun h hp => rdB_tail (hF h hp) (by omega))) (by simp; omega)) (fun v22 Ps22 hR22 => ?_)) ?_
    ·
     obtain ⟨rfl,rfl⟩:=hR22
     refine ⟨⟨rfl,rfl,trivial⟩,?_⟩
     refine (T9 14 rfl rfl (Pu_build (V:=nodeV (at0 l 1).toNat (val (l.drop 2) 4) (at0 l 6).toNat ((l.drop 7).take 32)) [(0,1),(1,1),(2,1),(3,32)] (nodeC 0 0 0 zeroId) rfl rfl (by kernel_rfl) (by kernel_rfl) (.one rfl rfl (by simp [nodeC,bs_length,zeroId_length]) rfl (.one rfl rfl (by simp [nodeC,bs_length,zeroId_length]) rfl (.one rfl rfl (by simp [nodeC,bs_length,zeroId_length]) rfl (.many rfl (by rw [bs_length,htop]) (by simp [nodeC,bs_length,zeroId_length]) rfl (.nil _))))) (congrArg (fun q => Value.agg (List.toArray q)) (node_over zeroId_length htop))) (Y9 [16] ?_))
     refine Ac09 rfl rfl rfl (OpT_storeAll (r:=102) rfl Tryz.sizeOf42 rfl rfl rfl rfl (nodeC_length htop) (one_node _ _ _ _) ?_) ?_
     ·
      refine ⟨⟨rfl,rfl,trivial⟩,?_⟩
      refine (Ad9 (by kernel_rfl) (X9 ?_))
      refine Q9 (Q9 ?_)
      refine J9 [(0,_),(2,_),(3,_),(4,_),(7,_)] [(0,_),(101,_),(102,_)] ?_ ⟨rfl,rfl,rfl,rfl,rfl,trivial⟩ ⟨rfl,rfl,rfl,trivial⟩
      refine R9 (M9 rfl rfl (L9 rfl (Pu_idxS1 (r:=0) rfl Tryz.runUnderlying36 Tryz.sizeOf5 rfl rfl rfl hF (by omega)) (L9 rfl (Py9 (r:=0) rfl Tryz.isAgg5 rfl rfl hF (bs_at1 (k:=0) (by omega))) (L9 rfl (Pn9 rfl rfl rfl (run_neq _ _ _ _ _ _)) (M9 rfl rfl (Lg9 rfl rfl rfl rfl (by decide) (fun hb => (Px9 (r:=102) rfl Tryz.isAgg42 Tryz.sizeOf42 rfl rfl (nodeC_length htop) (load_all (nodeC_length htop)))) (WL_guard (V:=.int .i64 (wrongN (parsed l).1 (parsed l).2.1 (parsed l).2.2.1 (parsed l).2.2.2)) rfl rfl rfl rfl (by decide) (fun hb => (Oc9 400 [0,101,102] [] rfl Tryz.call147 (evL_cons (ev_gv rfl hb) evL_nil) rfl rfl (by decide) (by decide) (refWrong_spec _ _ _ _ htop _) (fun v30 Ps30 hR30 => ⟨hR30.1,fun w hw => by rw [hR30.2] at hw; exact hw.sub (AllIn.look ⟨rfl,rfl,rfl,trivial⟩)⟩))) ?_)))))))
      refine (Lg9 rfl rfl rfl rfl (by decide) (fun hb => (Pn9 rfl (ev_gv rfl hb) rfl (run_neq _ _ _ _ _ _))) (L9 rfl (Pu_or rfl rfl rfl) (N9 (X9 ?_))))
      refine C9 rfl (fun hc32 => ?_) (fun hc32 => ?_)
      ·
       refine Q9 ?_
       refine J9 [(0,_),(2,_),(3,_),(4,_),(7,_),(32,_)] [(0,_),(101,_),(102,_)] ?_ ⟨rfl,rfl,rfl,rfl,rfl,rfl,trivial⟩ ⟨rfl,rfl,rfl,trivial⟩
       refine R9 (L9 rfl (Pu_build (V:=_) [(0,1),(1,1),(2,1),(3,32)] (nodeC 0 0 0 zeroId) rfl rfl (by kernel_rfl) (by kernel_rfl) (.nil _) rfl) (Lc09 rfl rfl (OpT_storeAll (r:=101) rfl Tryz.sizeOf42 rfl rfl rfl (by simp [nodeC,bs_length,zeroId_length, *]) (by simp [nodeC,bs_length,zeroId_length, *]) (one_node _ _ _ _) ?_)))
       refine (G9 rfl rfl (N9 (X9 ?_)))
       refine W_ret (X_then_ret ?_)
       exact Xq9 [] (Ps:=[]) (resC2 (r:=101) Tryz.results116 rfl rfl Tryz.isAgg42 Tryz.sizeOf42 rfl (nodeC_length zeroId_length)) rfl (by decide) ⟨by rw [parseI_bad h39 hc32]; rfl,rfl⟩
      ·
       refine K9 (X9 ?_)
       refine Q9 (Q9 ?_)
       refine J9 [(0,_),(2,_),(3,_),(4,_),(7,_),(32,_)] [(0,_),(101,_),(102,_)] ?_ ⟨rfl,rfl,rfl,rfl,rfl,rfl,trivial⟩ ⟨rfl,rfl,rfl,trivial⟩
       refine R9 (M9 rfl rfl (L9 rfl (Pl9 (r:=0) rfl Tryz.runUnderlying36 rfl rfl hF) (L9 rfl (Pn9 rfl rfl rfl (run_gtr _ _ _ _ _ _)) (N9 (X9 ?_)))))
       refine C9 rfl (fun hc36 => ?_) (fun hc36 => ?_)
       ·
        refine Q9 ?_
        refine J9 [(0,_),(2,_),(3,_),(4,_),(7,_),(32,_),(36,_)] [(0,_),(101,_),(102,_)] ?_ ⟨rfl,rfl,rfl,rfl,rfl,rfl,rfl,trivial⟩ ⟨rfl,rfl,rfl,trivial⟩
        refine R9 (L9 rfl (Pu_build (V:=_) [(0,1),(1,1),(2,1),(3,32)] (nodeC 0 0 0 zeroId) rfl rfl (by kernel_rfl) (by kernel_rfl) (.nil _) rfl) (Lc09 rfl rfl (OpT_storeAll (r:=101) rfl Tryz.sizeOf42 rfl rfl rfl (by simp [nodeC,bs_length,zeroId_length, *]) (by simp [nodeC,bs_length,zeroId_length, *]) (one_node _ _ _ _) ?_)))
        refine (G9 rfl rfl (N9 (X9 ?_)))
        refine W_ret (X_then_ret ?_)
        exact Xq9 [] (Ps:=[]) (resC2 (r:=101) Tryz.results116 rfl rfl Tryz.isAgg42 Tryz.sizeOf42 rfl (nodeC_length zeroId_length)) rfl (by decide) ⟨by rw [parseI_more h39 hc32 hc36]; rfl,rfl⟩
       ·
        refine K9 (X9 ?_)
        refine Q9 ?_
        refine J9 [(0,_),(2,_),(3,_),(4,_),(7,_),(32,_),(36,_)] [(0,_),(101,_),(102,_)] ?_ ⟨rfl,rfl,rfl,rfl,rfl,rfl,rfl,trivial⟩ ⟨rfl,rfl,rfl,trivial⟩
        refine R9 (L9 rfl (Px9 (r:=102) rfl Tryz.isAgg42 Tryz.sizeOf42 rfl rfl (nodeC_length htop) (load_all (nodeC_length htop))) (Lc09 rfl rfl (OpT_storeAll (r:=101) rfl Tryz.sizeOf42 rfl rfl rfl rfl (nodeC_length htop) (one_node _ _ _ _) ?_)))
        refine (G9 rfl rfl (N9 (X9 ?_)))
        refine W_ret ?_
        exact Xq9 [] (Ps:=[]) (resC2 (r:=101) Tryz.results116 rfl rfl Tryz.isAgg42 Tryz.sizeOf42 rfl (nodeC_length htop)) rfl (by decide) ⟨by rw [parseI_ok h39 hc32 hc36]; rfl,rfl⟩
     exact An9
    exact An9
   exact An9
  exact An9
open Go.RowKit
set_option maxRecDepth 8000

theorem inner_spec (v : Value) (l : List (List UInt8)) (hl : Ids l) (F : HP) (hF : ∀ h,F h → rdI v l h) : CallsS Tryz.prog 94 #[v] F [] (fun r Ps => ∃ v',r = .tuple #[v',.int .i64 (innerE l)] ∧ Ps = [rowB 5 v' (innerR l)]):=by
 refine callsS_enter Tryz.func94 rfl Tryz.ntmps94 (by simp) (fun E => ?_)
 refine Q9 (R9 (G9 rfl rfl (G9 rfl rfl (N9 (X9 (Q9 ?_))))))
 refine W_block ?_
 refine Q9 (R9 (M9 rfl rfl (L9 rfl (Pl9 (r:=0) rfl Tryz.runUnderlying165 rfl rfl hF) (L9 rfl (Pn9 rfl rfl rfl (run_eql _ _ _ _ _ _)) (G9 rfl rfl (N9 (X9 ?_)))))))
 refine C9 rfl (fun hc7 => ?_) (fun hc7 => ?_)
 ·
  have h0:=of_decide_eq_true hc7
  refine Q9 (R9 (G9 rfl rfl (G9 rfl rfl (N9 (X9 ?_)))))
  refine W_ret (X_block_ret (X_then_ret ?_))
  refine X_nilRow 9900 5 1 ?_
  have hE : innerE l = 1:=by unfold innerE; rw [if_pos (by omega)]
  exact Xq9 [9900] (Ps:=[_]) (res2 Tryz.results94 rfl rfl) rfl (by decide) ⟨_,by rw [hE],by rw [innerR,if_neg (by rw [hE]; decide)]; rfl⟩
 ·
  have h0:=of_decide_eq_false hc7
  refine Q9 (R9 (M9 rfl rfl (L9 rfl (Pl9 (r:=0) rfl Tryz.runUnderlying165 rfl rfl hF) (L9 rfl (Pn9 rfl rfl rfl (run_gtr _ _ _ _ _ _)) (G9 rfl rfl (N9 (X9 ?_)))))))
  refine C9 rfl (fun hc11 => ?_) (fun hc11 => ?_)
  ·
   have h8:=of_decide_eq_true hc11
   refine Q9 (R9 (G9 rfl rfl (G9 rfl rfl (N9 (X9 ?_)))))
   refine W_ret (X_block_ret (X_then_ret ?_))
   refine X_nilRow 9900 5 1 ?_
   have hE : innerE l = 4:=by unfold innerE; rw [if_neg (by omega),if_pos (by omega)]
   exact Xq9 [9900] (Ps:=[_]) (res2 Tryz.results94 rfl rfl) rfl (by decide) ⟨_,by rw [hE],by rw [innerR,if_neg (by rw [hE]; decide)]; rfl⟩
  ·
   have h8:=of_decide_eq_false hc11
   refine K9 (X_block (X9 ?_))
   refine Q9 (R9 (M9 rfl rfl (L9 rfl (Pl9 (r:=0) rfl Tryz.runUnderlying165 rfl rfl hF) (L9 rfl (Pu_conv rfl rfl (conv_byte _ _ Tryz.runUnderlying3 Tryz.runUnderlying5)) (Lc9 rfl rfl (by decide) (OpT_buildOnes (r:=101) (bs [110,byte l.length]) rfl rfl Tryz.runUnderlying36 Tryz.sizeOf5 Tryz.zeroValue5 rfl rfl (by decide) rfl (bs_cells _) (fun v18 => (G9 rfl rfl (N9 (X9 (Q9 (Q9 (R9 (M9 rfl rfl (L9 rfl (Pl9 (r:=0) rfl Tryz.runUnderlying165 rfl rfl hF) (M9 rfl rfl (N9 (X9 ?_))))))))))))))))))
   refine W_block ?_
   refine W_loop (α:=Nat × Value) (fun k => [(0,v),(4,k.2),(19,v),(20,.int .i64 (l.length : Int)),(21,.int .i64 (k.1 : Int))]) (fun k => [(0,F),(101,rowB 5 k.2 (innerTo l k.1))]) (fun k => k.1 ≤ l.length) (fun k => l.length - k.1) ((0,v18)) (Nat.zero_le _) (a9 rfl) (a9 rfl) (fun x hx => ?_)
   unfold rowB
   refine Q9 (R9 (L9 rfl (Pn9 rfl rfl rfl (run_lss _ _ _ _ _ _)) (N9 (X9 (Q9 ?_)))))
   refine C9 rfl (fun hc22 => ?_) (fun hc22 => ?_)
   ·
    have hlt : x.1 < l.length:=by have:=of_decide_eq_true hc22; omega
    have hid:=hl.get hlt
    refine K9 (X9 ?_)
    refine Q9 ?_
    refine W_block ?_
    refine Q9 (R9 (L9 rfl (Pi9 (r:=0) rfl Tryz.runUnderlying165 Tryz.sizeOf29 rfl rfl rfl hF (by omega)) (L9 rfl (Pz9 (r:=0) rfl Tryz.isAgg29 Tryz.sizeOf29 rfl rfl hF ((bs_length _).trans hid) (by decide) (idsC_get (k:=x.1) hl hlt)) (Lc9 rfl rfl (by decide) (OpT_alloc (r:=102) (cs:=(bs zeroId)) rfl (zero_run (by kernel_rfl : (Tryz.prog.info? 29).bind (·.zero) = some (.agg (bs zeroId).toArray))) rfl (fun g102 => (Lc09 rfl rfl (OpT_storeAll (r:=102) rfl Tryz.sizeOf29 rfl rfl rfl rfl ((bs_length _).trans hid) (bs_one _) ?_))))))))
    refine (N9 (X9 ?_))
    refine R9 (M9 rfl rfl (L9 rfl (Pu_sliceArr rfl Tryz.runUnderlying29 Tryz.sizeOf5 rfl) (Lc9 rfl rfl (by decide) (Oa9 (r:=101) (r2:=102) rfl Tryz.underlying36 TI.hi5 TI.hz5 TI.hs5 TI.hby5 TI.hzs5 (by decide) rfl rfl rfl rfl (fun _ h => id_rd hid h) (bs_one _) (by rw [innerTo_length hl hx]; unfold maxLen; omega) (by rw [innerTo_length hl hx]; omega) (fun v27 => ?_)))))
    refine (G9 rfl rfl (N9 (X_block (X9 ?_))))
    refine R9 (L9 rfl (Pn9 rfl rfl rfl (run_add _ _ _ _ _ (by omega))) (M9 rfl rfl (N9 ?_)))
    exact Xr9 (x.1 + 1,v27) (by show x.1 + 1 ≤ l.length; omega) (by show l.length - (x.1 + 1) < _; omega) ⟨rfl,rfl,rfl,rfl,rfl,trivial⟩ ⟨rfl,look_eq rfl (rowB_of (innerTo l (x.1 + 1)) (by rw [innerTo_succ hlt,List.length_append,hid]) (by rw [innerTo_succ hlt,bs_append])),trivial⟩
   ·
    have hfin : x.1 = l.length:=by have:=of_decide_eq_false hc22; omega
    refine W_exit (X_then_exit (X_then_exit (X_block_exit (X9 ?_))))
    refine Q9 (R9 (M9 rfl rfl (G9 rfl rfl (G9 rfl rfl (N9 (X9 ?_))))))
    refine W_ret ?_
    have hE : innerE l = 0:=by unfold innerE; rw [if_neg (by omega),if_neg (by omega)]
    exact Xq9 [101] (Ps:=[_]) (res2 Tryz.results94 rfl rfl) rfl (by decide) ⟨_,by rw [hE],by rw [innerR,if_pos hE,← hfin]⟩
theorem refInner_spec (v : Value) (l : List (List UInt8)) (hl : Ids l) (F : HP) (hF : ∀ h,F h → rdI v l h) : CallsS Tryz.prog 112 #[v] F [] (fun r Ps => ∃ v',r = .tuple #[v',.int .i64 (innerE l)] ∧ Ps = [rowB 5 v' (innerR l)]):=by
 refine callsS_enter Tryz.func112 rfl Tryz.ntmps112 (by simp) (fun E => ?_)
 refine Q9 (R9 (G9 rfl rfl (G9 rfl rfl (N9 (X9 (Q9 (Q9 (R9 (M9 rfl rfl (L9 rfl (Pl9 (r:=0) rfl Tryz.runUnderlying165 rfl rfl hF) (L9 rfl (Pn9 rfl rfl rfl (run_eql _ _ _ _ _ _)) (N9 (X9 ?_)))))))))))))
 refine C9 rfl (fun hc8 => ?_) (fun hc8 => ?_)
 ·
  have h0:=of_decide_eq_true hc8
  refine Q9 (R9 (G9 rfl rfl (G9 rfl rfl (N9 (X9 ?_)))))
  refine W_ret (X_then_ret ?_)
  refine X_nilRow 9900 5 1 ?_
  have hE : innerE l = 1:=by unfold innerE; rw [if_pos (by omega)]
  exact Xq9 [9900] (Ps:=[_]) (res2 Tryz.results112 rfl rfl) rfl (by decide) ⟨_,by rw [hE],by rw [innerR,if_neg (by rw [hE]; decide)]; rfl⟩
 ·
  have h0:=of_decide_eq_false hc8
  refine K9 (X9 ?_)
  refine Q9 (Q9 (R9 (M9 rfl rfl (L9 rfl (Pl9 (r:=0) rfl Tryz.runUnderlying165 rfl rfl hF) (L9 rfl (Pn9 rfl rfl rfl (run_gtr _ _ _ _ _ _)) (N9 (X9 ?_)))))))
  refine C9 rfl (fun hc11 => ?_) (fun hc11 => ?_)
  ·
   have h8:=of_decide_eq_true hc11
   refine Q9 (R9 (G9 rfl rfl (G9 rfl rfl (N9 (X9 ?_)))))
   refine W_ret (X_then_ret ?_)
   refine X_nilRow 9900 5 1 ?_
   have hE : innerE l = 4:=by unfold innerE; rw [if_neg (by omega),if_pos (by omega)]
   exact Xq9 [9900] (Ps:=[_]) (res2 Tryz.results112 rfl rfl) rfl (by decide) ⟨_,by rw [hE],by rw [innerR,if_neg (by rw [hE]; decide)]; rfl⟩
  ·
   have h8:=of_decide_eq_false hc11
   refine K9 (X9 ?_)
   refine Q9 (R9 (M9 rfl rfl (L9 rfl (Pl9 (r:=0) rfl Tryz.runUnderlying165 rfl rfl hF) (L9 rfl (Pu_conv rfl rfl (conv_byte _ _ Tryz.runUnderlying3 Tryz.runUnderlying5)) (Lc9 rfl rfl (by decide) (OpT_buildOnes (r:=101) (bs [110,byte l.length]) rfl rfl Tryz.runUnderlying36 Tryz.sizeOf5 Tryz.zeroValue5 rfl rfl (by decide) rfl (bs_cells _) (fun v15 => (G9 rfl rfl (N9 (X9 (Q9 (Q9 (R9 (G9 rfl rfl (N9 (X9 ?_))))))))))))))))
   refine W_block ?_
   refine W_loop (α:=Nat × Value) (fun k => [(0,v),(4,k.2),(5,.int .i64 (k.1 : Int))]) (fun k => [(0,F),(101,rowB 5 k.2 (innerTo l k.1))]) (fun k => k.1 ≤ l.length) (fun k => l.length - k.1) ((0,v15)) (Nat.zero_le _) (a9 rfl) (a9 rfl) (fun x hx => ?_)
   unfold rowB
   refine Q9 (Q9 (R9 (M9 rfl rfl (M9 rfl rfl (L9 rfl (Pl9 (r:=0) rfl Tryz.runUnderlying165 rfl rfl hF) (L9 rfl (Pn9 rfl rfl rfl (run_lss _ _ _ _ _ _)) (N9 (X9 ?_))))))))
   refine C9 rfl (fun hc19 => ?_) (fun hc19 => ?_)
   ·
    have hlt : x.1 < l.length:=by have:=of_decide_eq_true hc19; omega
    have hid:=hl.get hlt
    refine K9 (X9 ?_)
    refine Q9 ?_
    refine W_block ?_
    refine R9 (M9 rfl rfl (M9 rfl rfl (M9 rfl rfl (L9 rfl (Pi9 (r:=0) rfl Tryz.runUnderlying165 Tryz.sizeOf29 rfl rfl rfl hF (by omega)) (L9 rfl (Pu_sliceArrE rfl Tryz.runUnderlying29 Tryz.sizeOf5 rfl) (Lc9 rfl rfl (by decide) (Oa9 (r:=101) (r2:=0) rfl Tryz.underlying36 TI.hi5 TI.hz5 TI.hs5 TI.hby5 TI.hzs5 (by decide) rfl rfl rfl rfl (fun h hp => rdP_cast (rd_id (k:=x.1) (hF h hp) hl hlt) rfl hid) (bs_one _) (by rw [innerTo_length hl hx]; unfold maxLen; omega) (by rw [innerTo_length hl hx]; omega) (fun v27 => ?_))))))))
    refine (G9 rfl rfl (N9 (X_block (X9 ?_))))
    refine R9 (M9 rfl rfl (L9 rfl (Pn9 rfl rfl rfl (run_add _ _ _ _ _ (by omega))) (G9 rfl rfl (N9 ?_))))
    exact Xr9 (x.1 + 1,v27) (by show x.1 + 1 ≤ l.length; omega) (by show l.length - (x.1 + 1) < _; omega) ⟨rfl,rfl,rfl,trivial⟩ ⟨rfl,look_eq rfl (rowB_of (innerTo l (x.1 + 1)) (by rw [innerTo_succ hlt,List.length_append,hid]) (by rw [innerTo_succ hlt,bs_append])),trivial⟩
   ·
    have hfin : x.1 = l.length:=by have:=of_decide_eq_false hc19; omega
    refine W_exit (X_then_exit (X_then_exit (X_block_exit (X9 ?_))))
    refine Q9 (R9 (M9 rfl rfl (G9 rfl rfl (G9 rfl rfl (N9 (X9 ?_))))))
    refine W_ret ?_
    have hE : innerE l = 0:=by unfold innerE; rw [if_neg (by omega),if_neg (by omega)]
    exact Xq9 [101] (Ps:=[_]) (res2 Tryz.results112 rfl rfl) rfl (by decide) ⟨_,by rw [hE],by rw [innerR,if_pos hE,← hfin]⟩
open Go.RowKit
set_option maxRecDepth 8000

theorem parseInner_spec (v : Value) (l : List UInt8) (F : HP) (hF : ∀ h,F h → rdB v l h) : CallsS Tryz.prog 119 #[v] F [] (fun r Ps => ∃ v',r = .tuple #[v',.int .i64 (parseNE l)] ∧ Ps = [rowI 29 v' (parseNL l)]):=by
 refine callsS_enter Tryz.func119 rfl Tryz.ntmps119 (by simp) (fun E => ?_)
 refine Q9 (R9 (G9 rfl rfl (G9 rfl rfl (N9 (X9 (Q9 (Q9 (R9 (M9 rfl rfl (L9 rfl (Pl9 (r:=0) rfl Tryz.runUnderlying36 rfl rfl hF) (L9 rfl (Pn9 rfl rfl rfl (run_lss _ _ _ _ _ _)) (N9 (X9 ?_)))))))))))))
 refine C9 rfl (fun hc10 => ?_) (fun hc10 => ?_)
 ·
  refine Q9 (R9 (G9 rfl rfl (G9 rfl rfl (N9 (X9 ?_)))))
  refine W_ret (X_then_ret ?_)
  have hE:=parseNE_cut hc10
  refine X_nilRow 9900 29 32 ?_
  exact Xq9 [9900] (Ps:=[_]) (res2 Tryz.results119 rfl rfl) rfl (by decide) ⟨_,by rw [hE],by rw [parseNL_err hE (by decide)]; rfl⟩
 ·
  have h2 : 2 ≤ l.length:=by have:=of_decide_eq_false hc10; omega
  have hx1:=(at0 l 1).toNat_lt
  refine K9 (X9 ?_)
  refine Q9 (R9 (M9 rfl rfl (L9 rfl (Pu_idxS1 (r:=0) rfl Tryz.runUnderlying36 Tryz.sizeOf5 rfl rfl rfl hF (by omega)) (L9 rfl (Py9 (r:=0) rfl Tryz.isAgg5 rfl rfl hF (bs_at1 (k:=1) (by omega))) (L9 rfl (Pu_conv rfl rfl (conv_u8 _ Tryz.runUnderlying5 Tryz.runUnderlying3)) (G9 rfl rfl (N9 (X9 (Q9 (R9 (M9 rfl rfl (L9 rfl (Pn9 rfl rfl rfl (run_mul _ _ _ _ _ (by omega))) (L9 rfl (Pn9 rfl rfl rfl (run_add _ _ _ _ _ (by omega))) (G9 rfl rfl (N9 (X9 (Q9 ?_)))))))))))))))))
  refine W_block ?_
  refine Q9 (R9 (M9 rfl rfl (L9 rfl (Pu_idxS1 (r:=0) rfl Tryz.runUnderlying36 Tryz.sizeOf5 rfl rfl rfl hF (by omega)) (L9 rfl (Py9 (r:=0) rfl Tryz.isAgg5 rfl rfl hF (bs_at1 (k:=0) (by omega))) (L9 rfl (Pn9 rfl rfl rfl (run_neq _ _ _ _ _ _)) (M9 rfl rfl (Lg9 rfl rfl rfl rfl (by decide) (fun hb => (Pm9 rfl rfl)) (Lg9 rfl rfl rfl rfl (by decide) (fun hb => (Pn9 rfl (ev_gv rfl hb) rfl (run_lss _ _ _ _ _ _))) (L9 rfl (Pu_or rfl rfl rfl) (M9 rfl rfl (Lg9 rfl rfl rfl rfl (by decide) (fun hb => (Pm9 rfl rfl)) (Lg9 rfl rfl rfl rfl (by decide) (fun hb => (Pn9 rfl (ev_gv rfl hb) rfl (run_gtr _ _ _ _ _ _))) (L9 rfl (Pu_or rfl rfl rfl) (G9 rfl rfl (N9 (X9 ?_))))))))))))))))
  refine C9 rfl (fun hc18 => ?_) (fun hc18 => ?_)
  ·
   refine Q9 (R9 (G9 rfl rfl (G9 rfl rfl (N9 (X9 ?_)))))
   refine W_ret (X_block_ret (X_then_ret ?_))
   have hE:=parseNE_bad hc10 hc18
   refine X_nilRow 9900 29 32 ?_
   exact Xq9 [9900] (Ps:=[_]) (res2 Tryz.results119 rfl rfl) rfl (by decide) ⟨_,by rw [hE],by rw [parseNL_err hE (by decide)]; rfl⟩
  ·
   obtain ⟨g0,g1,g8⟩:=parseN_good hc18
   refine Q9 (R9 (M9 rfl rfl (L9 rfl (Pl9 (r:=0) rfl Tryz.runUnderlying36 rfl rfl hF) (M9 rfl rfl (L9 rfl (Pn9 rfl rfl rfl (run_lss _ _ _ _ _ _)) (G9 rfl rfl (N9 (X9 ?_))))))))
   refine C9 rfl (fun hc31 => ?_) (fun hc31 => ?_)
   ·
    have hlt:=of_decide_eq_true hc31
    refine Q9 (R9 (G9 rfl rfl (G9 rfl rfl (N9 (X9 ?_)))))
    refine W_ret (X_block_ret (X_then_ret ?_))
    have hE:=(parseNE_later hc10 hc18).trans (if_pos (by omega))
    refine X_nilRow 9900 29 32 ?_
    exact Xq9 [9900] (Ps:=[_]) (res2 Tryz.results119 rfl rfl) rfl (by decide) ⟨_,by rw [hE],by rw [parseNL_err hE (by decide)]; rfl⟩
   ·
    have hge:=of_decide_eq_false hc31
    refine Q9 (R9 (M9 rfl rfl (L9 rfl (Pl9 (r:=0) rfl Tryz.runUnderlying36 rfl rfl hF) (M9 rfl rfl (L9 rfl (Pn9 rfl rfl rfl (run_gtr _ _ _ _ _ _)) (G9 rfl rfl (N9 (X9 ?_))))))))
    refine C9 rfl (fun hc36 => ?_) (fun hc36 => ?_)
    ·
     have hgt:=of_decide_eq_true hc36
     refine Q9 (R9 (G9 rfl rfl (G9 rfl rfl (N9 (X9 ?_)))))
     refine W_ret (X_block_ret (X_then_ret ?_))
     have hE:=(parseNE_later hc10 hc18).trans ((if_neg (by omega)).trans (if_pos (by omega)))
     refine X_nilRow 9900 29 32 ?_
     exact Xq9 [9900] (Ps:=[_]) (res2 Tryz.results119 rfl rfl) rfl (by decide) ⟨_,by rw [hE],by rw [parseNL_err hE (by decide)]; rfl⟩
    ·
     have hle:=of_decide_eq_false hc36
     have hlen : l.length = 2 + (at0 l 1).toNat * 32:=by omega
     refine K9 (X_block (X9 ?_))
     refine Q9 (R9 (M9 rfl rfl (Lc9 rfl rfl (by decide) (OpT_make (r:=101) (m:=(at0 l 1).toNat) rfl Tryz.underlying165 TI.hi29 TI.hz29 TI.hs29 rfl rfl (by rw [TI.hby29]; omega) (by unfold maxLen; omega) (made_ids _) (fun v42 => ?_)))))
     refine (G9 rfl rfl (N9 (X9 ?_)))
     refine Q9 (Q9 (R9 (M9 rfl rfl (L9 rfl (Pl9 (r:=101) rfl Tryz.runUnderlying165 rfl rfl (fun _ h => rp9 h)) (M9 rfl rfl (N9 (X9 ?_)))))))
     refine W_block ?_
     refine W_loop (α:=Nat) (fun k => [(0,v),(4,.int .i64 ((at0 l 1).toNat : Int)),(6,v42),(44,.int .i64 ((at0 l 1).toNat : Int)),(45,.int .i64 (k : Int))]) (fun k => [(0,F),(101,rowI 29 v42 (idsTo l (at0 l 1).toNat k))]) (fun k => k ≤ (at0 l 1).toNat) (fun k => (at0 l 1).toNat - k) (0) (Nat.zero_le _) ⟨rfl,rfl,rfl,rfl,rfl,trivial⟩ ⟨rfl,look_eq rfl (by rw [idsTo_zero]; exact rowI_of _ (by simp) rfl),trivial⟩ (fun x hx => ?_)
     unfold rowI
     refine Q9 (R9 (L9 rfl (Pn9 rfl rfl rfl (run_lss _ _ _ _ _ _)) (N9 (X9 (Q9 ?_)))))
     refine C9 rfl (fun hc46 => ?_) (fun hc46 => ?_)
     ·
      have hlt : x < (at0 l 1).toNat:=by have:=of_decide_eq_true hc46; omega
      have hil:=idsTo_length l (Nat.le_of_lt hlt)
      have hii : Ids (idsTo l (at0 l 1).toNat x):=idsTo_ids (by omega)
      have hx32 : ((l.drop (2 + x * 32)).take 32).length = 32:=by simp; omega
      refine K9 (X9 ?_)
      refine Q9 ?_
      refine W_block ?_
      refine Q9 (R9 (M9 rfl rfl (G9 rfl rfl (N9 (X9 ?_)))))
      refine W_draw (N:=10) (by kernel_rfl) rfl [(0,_)] ⟨rfl,trivial⟩ ?_
      refine (T9 0 rfl rfl (Pm9 rfl rfl) (T9 1 rfl rfl (Pm9 rfl rfl) (T9 4 rfl rfl (Pm9 rfl rfl) (T9 5 rfl rfl (Pm9 rfl rfl) (T9 6 rfl rfl (Pn9 rfl rfl rfl (run_mul _ _ _ _ _ (by omega))) (T9 7 rfl rfl (Pn9 rfl rfl rfl (run_add _ _ _ _ _ (by omega))) (T9 8 rfl rfl (Pu_slice (r:=0) (a:=2 + x * 32) (b:=l.length) rfl Tryz.runUnderlying36 Tryz.sizeOf5 rfl rfl hF (.inr ⟨_,_,_,rfl,rfl,(by omega)⟩) (.inl ⟨rfl,rfl⟩) (by omega) (Nat.le_refl _)) (Y9 [2] ?_))))))))
      refine Z9 rfl rfl (Or9 (Pi9 (r:=101) rfl Tryz.runUnderlying165 Tryz.sizeOf29 rfl rfl rfl (fun _ h => rp9 h) (by rw [hil]; omega)) ⟨⟨rfl,trivial⟩,?_⟩) ?_
      ·
       refine (T9 3 rfl rfl (Pu_sliceArrE rfl Tryz.runUnderlying29 Tryz.sizeOf5 rfl) (Y9 [9] ?_))
       refine Z9 rfl rfl (OpT_copyS (r:=101) (r2:=0) rfl Tryz.underlying36 TI.hsm5 rfl rfl rfl rfl (fun h hp => rdB_tail (hF h hp) (by omega)) (bs_one _) (by rw [idsC_length hii,hil]; simp; omega) (idsC_step (k:=x) hii (by rw [hil]; exact hlt) (by simp; omega)) ?_) ?_
       ·
        refine ⟨⟨rfl,trivial⟩,?_⟩
        refine (Ad9 (by kernel_rfl) (X_block (X9 ?_)))
        refine R9 (L9 rfl (Pn9 rfl rfl rfl (run_add _ _ _ _ _ (by omega))) (M9 rfl rfl (N9 ?_)))
        exact Xr9 (x + 1) (by show x + 1 ≤ _; omega) (by show _ - (x + 1) < _; omega) ⟨rfl,rfl,rfl,rfl,rfl,trivial⟩ ⟨rfl,look_eq rfl (by rw [idsTo_set hlt]; exact rowI_of _ (by rw [idsTo_length l (show x + 1 ≤ _ from hlt),idsTo_length l (Nat.le_of_lt hlt)]) rfl),trivial⟩
       exact An9
      exact An9
     ·
      obtain rfl : x = (at0 l 1).toNat:=by have:=of_decide_eq_false hc46; omega
      refine W_exit (X_then_exit (X_then_exit (X_block_exit (X9 ?_))))
      refine Q9 (R9 (M9 rfl rfl (G9 rfl rfl (G9 rfl rfl (N9 (X9 ?_))))))
      refine W_ret ?_
      have hE:=(parseNE_later hc10 hc18).trans ((if_neg (by omega)).trans (if_neg (by omega)))
      exact Xq9 [101] (Ps:=[_]) (res2 Tryz.results119 rfl rfl) rfl (by decide) ⟨_,by rw [hE],by rw [parseNL,if_pos hE,← idsTo_all]⟩
open Go.RowKit
set_option maxRecDepth 8000

theorem refParseInner_spec (v : Value) (l : List UInt8) (F : HP) (hF : ∀ h,F h → rdB v l h) : CallsS Tryz.prog 151 #[v] F [] (fun r Ps => ∃ v',r = .tuple #[v',.int .i64 (parseNE l)] ∧ Ps = [rowI 29 v' (parseNL l)]):=by
 refine callsS_enter Tryz.func151 rfl Tryz.ntmps151 (by simp) (fun E => ?_)
 refine Q9 (R9 (G9 rfl rfl (G9 rfl rfl (N9 (X9 (Q9 (Q9 (R9 (M9 rfl rfl (L9 rfl (Pl9 (r:=0) rfl Tryz.runUnderlying36 rfl rfl hF) (L9 rfl (Pn9 rfl rfl rfl (run_lss _ _ _ _ _ _)) (N9 (X9 ?_)))))))))))))
 refine C9 rfl (fun hc9 => ?_) (fun hc9 => ?_)
 ·
  refine Q9 (R9 (G9 rfl rfl (G9 rfl rfl (N9 (X9 ?_)))))
  refine W_ret (X_then_ret ?_)
  have hE:=parseNE_cut hc9
  refine X_nilRow 9900 29 32 ?_
  exact Xq9 [9900] (Ps:=[_]) (res2 Tryz.results151 rfl rfl) rfl (by decide) ⟨_,by rw [hE],by rw [parseNL_err hE (by decide)]; rfl⟩
 ·
  have h2 : 2 ≤ l.length:=by have:=of_decide_eq_false hc9; omega
  have hx1:=(at0 l 1).toNat_lt
  refine K9 (X9 ?_)
  refine Q9 (R9 (M9 rfl rfl (L9 rfl (Pu_idxS1 (r:=0) rfl Tryz.runUnderlying36 Tryz.sizeOf5 rfl rfl rfl hF (by omega)) (L9 rfl (Py9 (r:=0) rfl Tryz.isAgg5 rfl rfl hF (bs_at1 (k:=1) (by omega))) (L9 rfl (Pu_conv rfl rfl (conv_u8 _ Tryz.runUnderlying5 Tryz.runUnderlying3)) (G9 rfl rfl (N9 (X9 (Q9 (Q9 (R9 (M9 rfl rfl (L9 rfl (Pu_idxS1 (r:=0) rfl Tryz.runUnderlying36 Tryz.sizeOf5 rfl rfl rfl hF (by omega)) (L9 rfl (Py9 (r:=0) rfl Tryz.isAgg5 rfl rfl hF (bs_at1 (k:=0) (by omega))) (L9 rfl (Pn9 rfl rfl rfl (run_neq _ _ _ _ _ _)) (M9 rfl rfl (Lg9 rfl rfl rfl rfl (by decide) (fun hb => (Pm9 rfl rfl)) (Lg9 rfl rfl rfl rfl (by decide) (fun hb => (Pn9 rfl (ev_gv rfl hb) rfl (run_lss _ _ _ _ _ _))) (L9 rfl (Pu_or rfl rfl rfl) (M9 rfl rfl (Lg9 rfl rfl rfl rfl (by decide) (fun hb => (Pm9 rfl rfl)) (Lg9 rfl rfl rfl rfl (by decide) (fun hb => (Pn9 rfl (ev_gv rfl hb) rfl (run_gtr _ _ _ _ _ _))) (L9 rfl (Pu_or rfl rfl rfl) (N9 (X9 ?_)))))))))))))))))))))))))
  refine C9 rfl (fun hc25 => ?_) (fun hc25 => ?_)
  ·
   refine Q9 (R9 (G9 rfl rfl (G9 rfl rfl (N9 (X9 ?_)))))
   refine W_ret (X_then_ret ?_)
   have hE:=parseNE_bad hc9 hc25
   refine X_nilRow 9900 29 32 ?_
   exact Xq9 [9900] (Ps:=[_]) (res2 Tryz.results151 rfl rfl) rfl (by decide) ⟨_,by rw [hE],by rw [parseNL_err hE (by decide)]; rfl⟩
  ·
   obtain ⟨g0,g1,g8⟩:=parseN_good hc25
   refine K9 (X9 ?_)
   refine Q9 (Q9 (R9 (M9 rfl rfl (L9 rfl (Pl9 (r:=0) rfl Tryz.runUnderlying36 rfl rfl hF) (M9 rfl rfl (L9 rfl (Pn9 rfl rfl rfl (run_mul _ _ _ _ _ (by omega))) (L9 rfl (Pn9 rfl rfl rfl (run_add _ _ _ _ _ (by omega))) (L9 rfl (Pn9 rfl rfl rfl (run_lss _ _ _ _ _ _)) (N9 (X9 ?_))))))))))
   refine C9 rfl (fun hc31 => ?_) (fun hc31 => ?_)
   ·
    have hlt:=of_decide_eq_true hc31
    refine Q9 (R9 (G9 rfl rfl (G9 rfl rfl (N9 (X9 ?_)))))
    refine W_ret (X_then_ret ?_)
    have hE:=(parseNE_later hc9 hc25).trans (if_pos (by omega))
    refine X_nilRow 9900 29 32 ?_
    exact Xq9 [9900] (Ps:=[_]) (res2 Tryz.results151 rfl rfl) rfl (by decide) ⟨_,by rw [hE],by rw [parseNL_err hE (by decide)]; rfl⟩
   ·
    have hge:=of_decide_eq_false hc31
    refine K9 (X9 ?_)
    refine Q9 (Q9 (R9 (M9 rfl rfl (L9 rfl (Pl9 (r:=0) rfl Tryz.runUnderlying36 rfl rfl hF) (M9 rfl rfl (L9 rfl (Pn9 rfl rfl rfl (run_mul _ _ _ _ _ (by omega))) (L9 rfl (Pn9 rfl rfl rfl (run_add _ _ _ _ _ (by omega))) (L9 rfl (Pn9 rfl rfl rfl (run_gtr _ _ _ _ _ _)) (N9 (X9 ?_))))))))))
    refine C9 rfl (fun hc37 => ?_) (fun hc37 => ?_)
    ·
     have hgt:=of_decide_eq_true hc37
     refine Q9 (R9 (G9 rfl rfl (G9 rfl rfl (N9 (X9 ?_)))))
     refine W_ret (X_then_ret ?_)
     have hE:=(parseNE_later hc9 hc25).trans ((if_neg (by omega)).trans (if_pos (by omega)))
     refine X_nilRow 9900 29 32 ?_
     exact Xq9 [9900] (Ps:=[_]) (res2 Tryz.results151 rfl rfl) rfl (by decide) ⟨_,by rw [hE],by rw [parseNL_err hE (by decide)]; rfl⟩
    ·
     have hle:=of_decide_eq_false hc37
     have hlen : l.length = 2 + (at0 l 1).toNat * 32:=by omega
     refine K9 (X9 ?_)
     refine Q9 (R9 (G9 rfl rfl (N9 (X9 (Q9 (Q9 (R9 (G9 rfl rfl (N9 (X9 ?_))))))))))
     refine W_block ?_
     refine W_nilRow 101 29 32 ?_
     refine W_loop (α:=Nat × Value) (fun k => [(0,v),(4,.int .i64 ((at0 l 1).toNat : Int)),(5,k.2),(6,.int .i64 (k.1 : Int))]) (fun k => [(0,F),(101,rowI 29 k.2 (idsOf l k.1))]) (fun k => k.1 ≤ (at0 l 1).toNat) (fun k => (at0 l 1).toNat - k.1) ((0,.slice none 0 0)) (Nat.zero_le _) (a9 rfl) (a9 rfl) (fun x hx => ?_)
     unfold rowI
     refine Q9 (Q9 (R9 (M9 rfl rfl (M9 rfl rfl (L9 rfl (Pn9 rfl rfl rfl (run_lss _ _ _ _ _ _)) (N9 (X9 ?_)))))))
     refine C9 rfl (fun hc40 => ?_) (fun hc40 => ?_)
     ·
      have hlt : x.1 < (at0 l 1).toNat:=by have:=of_decide_eq_true hc40; omega
      have hx32 : ((l.drop (2 + x.1 * 32)).take 32).length = 32:=by simp; omega
      refine K9 (X9 ?_)
      refine Q9 ?_
      refine W_block ?_
      refine R9 (M9 rfl rfl (M9 rfl rfl (M9 rfl rfl (L9 rfl (Pn9 rfl rfl rfl (run_mul _ _ _ _ _ (by omega))) (L9 rfl (Pn9 rfl rfl rfl (run_add _ _ _ _ _ (by omega))) (L9 rfl (Pu_slice (r:=0) (a:=2 + x.1 * 32) (b:=l.length) rfl Tryz.runUnderlying36 Tryz.sizeOf5 rfl rfl hF (.inr ⟨_,_,_,rfl,rfl,(by omega)⟩) (.inl ⟨rfl,rfl⟩) (by omega) (Nat.le_refl _)) (Lc9 rfl rfl (by decide) (Oc9 200 [0,101] [] rfl Tryz.call150 rfl rfl rfl (by decide) (by decide) (refId_spec _ (l.drop (2 + x.1 * 32)) _ (rs9 0 rfl (fun h hp => rdB_tail (hF h hp) (by omega))) (by simp; omega)) (fun v49 Ps49 hR49 => ?_)))))))))
      obtain ⟨rfl,rfl⟩:=hR49
      refine (Lc9 rfl rfl (by decide) (OpT_buildRows (r:=201) [bs ((l.drop (2 + x.1 * 32)).take 32)] rfl rfl Tryz.runUnderlying165 Tryz.sizeOf29 Tryz.zeroValue29 rfl (by decide) rfl (by decide) (by intro r hr; simp at hr; rw [hr,bs_length]; simp; omega) rfl (fun v50 => (Lc9 rfl rfl (by decide) (Oa9 (r:=101) (r2:=201) rfl Tryz.underlying165 TI.hi29 TI.hz29 TI.hs29 TI.hby29 TI.hzs29 (by decide) rfl rfl rfl rfl (fun _ h => rp9 h) (by rw [List.flatten_cons,List.flatten_nil,List.append_nil]; exact bs_one _) (by rw [idsOf_length]; unfold maxLen; omega) (by rw [idsOf_length]; omega) (fun v51 => ?_))))))
      refine (G9 rfl rfl (N9 (X_block (X9 ?_))))
      refine R9 (M9 rfl rfl (L9 rfl (Pn9 rfl rfl rfl (run_add _ _ _ _ _ (by omega))) (G9 rfl rfl (N9 ?_))))
      exact Xr9 (x.1 + 1,v51) (by show x.1 + 1 ≤ _; omega) (by show _ - (x.1 + 1) < _; omega) ⟨rfl,rfl,rfl,rfl,trivial⟩ ⟨rfl,look_eq rfl (rowI_of (idsOf l (x.1 + 1)) (by rw [idsOf_length,idsOf_length]) (by rw [idsOf_succ,idsC_append,idsC_one,List.flatten_cons,List.flatten_nil,List.append_nil])),trivial⟩
     ·
      obtain hfin : x.1 = (at0 l 1).toNat:=by have:=of_decide_eq_false hc40; have : x.1 ≤ (at0 l 1).toNat:=hx; omega
      refine W_exit (X_then_exit (X_then_exit (X_block_exit (X9 ?_))))
      refine Q9 (R9 (M9 rfl rfl (G9 rfl rfl (G9 rfl rfl (N9 (X9 ?_))))))
      refine W_ret ?_
      have hE:=(parseNE_later hc9 hc25).trans ((if_neg (by omega)).trans (if_neg (by omega)))
      exact Xq9 [101] (Ps:=[_]) (res2 Tryz.results151 rfl rfl) rfl (by decide) ⟨_,by rw [hE],by rw [parseNL,if_pos hE,← hfin]⟩
end Go.Proofs.YthkdkmaacjpneaaGreatDoor
namespace Go.Proofs.YthkdkmaacjpneaaGreatDoor
def turnTo (x : List UInt8) (a : List Int) (y : List UInt8) : Nat → List UInt8
  | 0 => x
  | k + 1 => (turnTo x a y k).set (a.getD k 0 % ((turnTo x a y k).length : Int)).toNat (at0 (turnTo x a y k) (a.getD k 0 % ((turnTo x a y k).length : Int)).toNat + at0 y k)
def turnN (x : List UInt8) (a : List Int) (y : List UInt8) : Nat:=if x.length = 0 then 0 else min (min a.length y.length) 3
def turned (x : List UInt8) (a : List Int) (y : List UInt8) : List UInt8:=turnTo x a y (turnN x a y)
def bentX (x : List UInt8) (a : List Int) (y : List UInt8) (cut : Int) : List UInt8:=if cut.tmod 2 = 1 then (turned x a y).take ((cut / 2) % ((turned x a y).length + 1)).toNat else turned x a y
open Go.RowKit
theorem at0_append_left {a b : List UInt8} {k : Nat} (h : k < a.length) : at0 (a ++ b) k = at0 a k:=by simp [at0,List.getElem?_append_left h]
theorem val_append {a b : List UInt8} : ∀ k,k ≤ a.length → val (a ++ b) k = val a k
  | 0,_ => rfl
  | k + 1,h => by rw [val,val,val_append k (by omega),at0_append_left (by omega)]
theorem val_num (s : Int) (h0 : 0 ≤ s) (h1 : s < 4294967296) : (val (numB s 4) 4 : Int) = s:=by
  rw [numB_four,val_four]
  have e : ∀ k : Nat,s.fdiv (2 ^ k) = s / 2 ^ k:=fun k => Int.fdiv_eq_ediv_of_nonneg _ (by apply Int.pow_nonneg; omega)
  have e24:=byte_toNat (s.fdiv (2 ^ 24))
  have e16:=byte_toNat (s.fdiv (2 ^ 16))
  have e8:=byte_toNat (s.fdiv (2 ^ 8))
  have e0:=byte_toNat s
  rw [e,show (2 : Int) ^ 24 = 16777216 from by decide] at e24
  rw [e,show (2 : Int) ^ 16 = 65536 from by decide] at e16
  rw [e,show (2 : Int) ^ 8 = 256 from by decide] at e8
  show (((byte (s.fdiv (2 ^ 24))).toNat * 2 ^ 24 + (byte (s.fdiv (2 ^ 16))).toNat * 2 ^ 16 + (byte (s.fdiv (2 ^ 8))).toNat * 2 ^ 8 + (byte s).toNat : Nat) : Int) = s
  rw [e,e,e,show (2 : Int) ^ 24 = 16777216 from by decide,show (2 : Int) ^ 16 = 65536 from by decide,show (2 : Int) ^ 8 = 256 from by decide]
  omega
theorem byte_small {n : Int} (h0 : 0 ≤ n) (h1 : n < 256) : ((byte n).toNat : Int) = n:=by rw [byte_toNat]; omega
theorem lev_le (s : Int) : lev s ≤ 7:=by
  unfold lev
  repeat' split
  all_goals omega
theorem wrong_zero {k s l : Int} {top : List UInt8} (h : wrongN k s l top = 0) : (k = 1 ∨ k = 2) ∧ 0 ≤ s ∧ s ≤ 1048576 ∧ l = (lev s : Int):=by
  unfold wrongN at h
  split at h
  · cases h
  · split at h
    · cases h
    · rename_i h1 h2
      unfold wrongB at h2
      simp at h2
      omega
theorem parse_inode {k s l : Int} {top : List UInt8} (ht : top.length = 32) (h : wrongN k s l top = 0) : parseI (inodeB k s l top) = ((k,s,l,top),0):=by
  obtain ⟨hk,hs0,hs1,hl⟩:=wrong_zero h
  have hll:=lev_le s
  have hlen : (inodeB k s l top).length = 39:=by simp [inodeB,numB_length,ht]
  have e1 : at0 (inodeB k s l top) 0 = 105:=by simp [inodeB,at0]
  have e2 : ((at0 (inodeB k s l top) 1).toNat : Int) = k:=by
    have : at0 (inodeB k s l top) 1 = byte k:=by simp [inodeB,at0]
    rw [this]
    exact byte_small (by omega) (by omega)
  have d2 : (inodeB k s l top).drop 2 = numB s 4 ++ ([byte l] ++ top):=by simp [inodeB]
  have e3 : (val ((inodeB k s l top).drop 2) 4 : Int) = s:=by
    rw [d2,val_append 4 (by rw [numB_length]; omega)]
    exact val_num s hs0 (by omega)
  have e4 : ((at0 (inodeB k s l top) 6).toNat : Int) = l:=by
    have : at0 (inodeB k s l top) 6 = byte l:=by
      rw [inodeB,numB_four]
      simp [at0]
    rw [this]
    exact byte_small (by omega) (by omega)
  have e5 : ((inodeB k s l top).drop 7).take 32 = top:=by
    rw [inodeB,numB_four]
    simp [← ht]
  have hp : parsed (inodeB k s l top) = (k,s,l,top):=by unfold parsed; rw [e2,e3,e4,e5]
  unfold parseI
  rw [if_neg (by omega),hp,if_neg (by simp [e1,h]),if_neg (by omega)]
theorem parseNL_ids (b : List UInt8) : Ids (parseNL b) ∧ (parseNL b).length ≤ 8:=by
  unfold parseNL
  split
  · rename_i h
    unfold parseNE at h
    split at h
    · cases h
    · split at h
      · cases h
      · split at h
        · cases h
        · split at h
          · cases h
          · exact ⟨idsOf_ids (by omega),by rw [idsOf_length]; omega⟩
  · exact ⟨fun x hx => by simp at hx,by simp⟩
theorem parseI_top (b : List UInt8) : (parseI b).1.2.2.2.length = 32:=by
  unfold parseI
  repeat' split
  all_goals first | rfl | (simp [parsed]; omega)
def nodeEq (k s l : Int) (top : List UInt8) (k' s' l' : Int) (top' : List UInt8) : Bool:=k == k' && (s == s' && (l == l' && (top == top' && true)))
end Go.Proofs.YthkdkmaacjpneaaGreatDoor
namespace Go.Proofs.YthkdkmaacjpneaaGreatDoor
def nodeS (k s : Int) : Int:=s % 5000
def nodeM (k s l : Int) (top : List UInt8) (how : Int) : Int × Int × Int × List UInt8 :=
  if how.tmod 3 = 0 then (k,s,l,top) else (1 + k % 2,s % 5000,(lev (s % 5000) : Int),if s % 5000 = 0 then zeroId else top)
end Go.Proofs.YthkdkmaacjpneaaGreatDoor
namespace Go.Proofs.YthkdkmaacjpneaaGreatDoor
open Go.RowKit Go.Lib
set_option maxRecDepth 8000
theorem less_irr : ∀ a : List UInt8,Op.bytesLess a a = false
  | [] => rfl
  | x :: l => by simp [Op.bytesLess,less_irr l]
theorem less_tri : ∀ a b : List UInt8,(!Op.bytesLess a b) = (Op.bytesLess b a || b == a)
  | [],[] => rfl
  | [],y :: m => rfl
  | x :: l,[] => rfl
  | x :: l,y :: m => by
    have ih:=less_tri l m
    simp only [Op.bytesLess]
    rcases Nat.lt_trichotomy x.toNat y.toNat with h | h | h
    · have h1 : x < y:=UInt8.lt_iff_toNat_lt.2 h
      have h2 : ¬ y < x:=fun hc => by have:=UInt8.lt_iff_toNat_lt.1 hc; omega
      have h3 : (y == x) = false:=by simp; intro hc; subst hc; omega
      have h4 : (y :: m == x :: l) = false:=by simp; intro hc; subst hc; omega
      simp [h1,h2,h3,h4]
    · have h0 : x = y:=UInt8.toNat_inj.1 h
      subst h0
      have h1 : ¬ x < x:=fun hc => by have:=UInt8.lt_iff_toNat_lt.1 hc; omega
      have h4 : (x :: m == x :: l) = (m == l):=by simp
      simp [h1,h4,ih]
    · have h1 : y < x:=UInt8.lt_iff_toNat_lt.2 h
      have h2 : ¬ x < y:=fun hc => by have:=UInt8.lt_iff_toNat_lt.1 hc; omega
      have h3 : (x == y) = false:=by simp; intro hc; subst hc; omega
      simp [h1,h2,h3]
def nms (es : List Ent) : List (List UInt8):=es.map (·.1)
theorem nms_length (es : List Ent) : (nms es).length = es.length:=by simp [nms]
theorem nms_at {es : List Ent} {k : Nat} (h : k < es.length) : (nms es).getD k [] = (es.getD k ent0).1:=by simp [nms,h]
def riseP (ns : List (List UInt8)) (k : Nat) : Prop:=∀ j,j < k → 1 ≤ j → Op.bytesLess (ns.getD (j - 1) []) (ns.getD j []) = true
instance (ns : List (List UInt8)) (k : Nat) : Decidable (riseP ns k):=by unfold riseP; infer_instance
theorem riseP_succ {ns : List (List UInt8)} {k : Nat} (h : riseP ns k) (h1 : 1 ≤ k → Op.bytesLess (ns.getD (k - 1) []) (ns.getD k []) = true) : riseP ns (k + 1):=fun j hj hj1 => by
  rcases Nat.lt_or_ge j k with hlt | hge
  · exact h j hlt hj1
  · obtain rfl : j = k:=by omega
    exact h1 hj1
theorem riseP_not {ns : List (List UInt8)} {k m : Nat} (hk : 1 ≤ k) (hm : k < m) (h : Op.bytesLess (ns.getD (k - 1) []) (ns.getD k []) = false) : ¬ riseP ns m:=fun hr => by
  have:=hr k hm hk
  rw [h] at this; cases this
def dirE (es : List Ent) : Nat:=if firstBad (nms es) ≠ 0 then firstBad (nms es) else if ¬ riseP (nms es) es.length then 1 else if 20 < es.length then 4 else 0
theorem dirE_bad {es : List Ent} (h : firstBad (nms es) ≠ 0) : dirE es = firstBad (nms es):=by unfold dirE; rw [if_pos h]
theorem dirE_fall {es : List Ent} (h : firstBad (nms es) = 0) (h2 : ¬ riseP (nms es) es.length) : dirE es = 1:=by unfold dirE; rw [if_neg (fun hc => hc h),if_pos h2]
theorem dirE_many {es : List Ent} (h : firstBad (nms es) = 0) (h2 : riseP (nms es) es.length) (h3 : 20 < es.length) : dirE es = 4:=by unfold dirE; rw [if_neg (fun hc => hc h),if_neg (fun hc => hc h2),if_pos h3]
theorem dirE_ok {es : List Ent} (h : firstBad (nms es) = 0) (h2 : riseP (nms es) es.length) (h3 : ¬ 20 < es.length) : dirE es = 0:=by unfold dirE; rw [if_neg (fun hc => hc h),if_neg (fun hc => hc h2),if_neg h3]
def entB (e : Ent) : List UInt8:=[byte (e.1.length : Int)] ++ e.1 ++ e.2
def dirTo (es : List Ent) (k : Nat) : List UInt8:=((es.take k).map entB).flatten
def dirB (es : List Ent) : List UInt8:=(es.map entB).flatten
theorem dirTo_succ {es : List Ent} {k : Nat} (h : k < es.length) : dirTo es (k + 1) = dirTo es k ++ [byte ((es.getD k ent0).1.length : Int)] ++ (es.getD k ent0).1 ++ (es.getD k ent0).2:=by
  unfold dirTo
  rw [List.take_add_one,List.map_append,List.flatten_append]
  simp [List.getElem?_eq_getElem h,entB]
theorem dirTo_all (es : List Ent) : dirTo es es.length = dirB es:=by simp [dirTo,dirB]
theorem dirTo_len {es : List Ent} {b : Nat} (hE : Ents es) (hb : ∀ e ∈ es,e.1.length ≤ b) (k : Nat) : (dirTo es k).length ≤ (b + 33) * es.length:=by
  have key : ∀ ls : List Ent,(∀ e ∈ ls,e.2.length = 32) → (∀ e ∈ ls,e.1.length ≤ b) → ((ls.map entB).flatten).length ≤ (b + 33) * ls.length:=by
    intro ls
    induction ls with
    | nil => intro _ _; simp
    | cons e ls ih =>
      intro h1 h2
      have i1:=ih (fun x hx => h1 x (by simp [hx])) (fun x hx => h2 x (by simp [hx]))
      have a1:=h1 e (by simp)
      have a2:=h2 e (by simp)
      simp only [List.map_cons,List.flatten_cons,List.length_append,entB,List.length_cons,List.length_nil] at i1 ⊢
      rw [Nat.mul_add]
      omega
  have h1:=key (es.take k) (fun e he => hE e (List.mem_of_mem_take he)) (fun e he => hb e (List.mem_of_mem_take he))
  have h2 : (es.take k).length ≤ es.length:=by simp; omega
  exact Nat.le_trans h1 (Nat.mul_le_mul_left _ h2)
def dirR (es : List Ent) : List UInt8:=if dirE es = 0 then dirB es else []
def finP (acc : List Ent) : List Ent × Nat:=if dirE acc ≠ 0 then ([],dirE acc) else (acc,0)
def need (b : List UInt8) : Nat:=1 + (at0 b 0).toNat + 32
def entOf (b : List UInt8) : Ent:=((b.drop 1).take (at0 b 0).toNat,(b.drop (1 + (at0 b 0).toNat)).take 32)
def parF : Nat → List UInt8 → List Ent → List Ent × Nat
  | 0,_,acc => finP acc
  | f + 1,b,acc => if b = [] then finP acc else if b.length < need b then ([],8) else parF f (b.drop (need b)) (acc ++ [entOf b])
theorem parF_fuel : ∀ (f g : Nat) (b : List UInt8) (acc : List Ent),b.length ≤ f → b.length ≤ g → parF f b acc = parF g b acc
  | 0,0,_,_,_,_ => rfl
  | 0,g + 1,b,acc,h,_ => by
    have : b = []:=List.eq_nil_of_length_eq_zero (by omega)
    subst this; simp [parF]
  | f + 1,0,b,acc,_,h => by
    have : b = []:=List.eq_nil_of_length_eq_zero (by omega)
    subst this; simp [parF]
  | f + 1,g + 1,b,acc,h1,h2 => by
    simp only [parF]
    split
    · rfl
    · split
      · rfl
      · exact parF_fuel f g _ _ (by unfold need; simp; omega) (by unfold need; simp; omega)
def par (b : List UInt8) (acc : List Ent) : List Ent × Nat:=parF b.length b acc
theorem par_nil (acc : List Ent) : par [] acc = finP acc:=rfl
theorem par_cut {b : List UInt8} (hb : b ≠ []) (h : b.length < need b) (acc : List Ent) : par b acc = ([],8):=by
  unfold par
  cases b with
  | nil => exact absurd rfl hb
  | cons x b => rw [List.length_cons,parF,if_neg hb,if_pos h]
theorem par_next {b : List UInt8} (hb : b ≠ []) (h : ¬ b.length < need b) (acc : List Ent) : par b acc = par (b.drop (need b)) (acc ++ [entOf b]):=by
  unfold par
  cases b with
  | nil => exact absurd rfl hb
  | cons x b =>
    rw [List.length_cons,parF,if_neg hb,if_neg h]
    refine parF_fuel _ _ _ _ ?_ (Nat.le_refl _)
    have h2 : 1 ≤ need (x :: b):=by unfold need; omega
    rw [List.length_drop,List.length_cons]
    omega
theorem entOf_id {b : List UInt8} (h : ¬ b.length < need b) : (entOf b).2.length = 32:=by
  unfold need at h
  simp [entOf]; omega
theorem Ents.snoc {es : List Ent} (h : Ents es) {e : Ent} (he : e.2.length = 32) : Ents (es ++ [e]):=fun x hx => by
  rcases List.mem_append.1 hx with hx | hx
  · exact h x hx
  · simp at hx; subst hx; exact he
theorem Ents.nil : Ents []:=fun x hx => by cases hx
theorem finP_len (acc : List Ent) : (finP acc).1.length ≤ acc.length:=by unfold finP; split <;> simp
theorem par_len : ∀ (n : Nat) (b : List UInt8) (acc : List Ent),b.length ≤ n → (par b acc).1.length ≤ acc.length + b.length ∧ (Ents acc → Ents (par b acc).1)
  | n,b,acc,h => by
    by_cases hb : b = []
    · subst hb
      rw [par_nil]
      refine ⟨by have:=finP_len acc; simpa using this,fun hE => ?_⟩
      unfold finP; split
      · exact Ents.nil
      · exact hE
    · by_cases hl : b.length < need b
      · rw [par_cut hb hl]; exact ⟨by simp,fun _ => Ents.nil⟩
      · rw [par_next hb hl]
        have hn1 : 33 ≤ need b:=by unfold need; omega
        have hb0 : 0 < b.length:=List.length_pos_iff.2 hb
        match n,h with
        | 0,h => omega
        | n + 1,h =>
          obtain ⟨i1,i2⟩:=par_len n (b.drop (need b)) (acc ++ [entOf b]) (by simp; omega)
          refine ⟨?_,fun hE => i2 (hE.snoc (entOf_id hl))⟩
          simp only [List.length_append,List.length_cons,List.length_nil,List.length_drop] at i1
          omega
theorem chk_len : ∀ (n : Nat) (l : List UInt8) (k : Nat) (bad : Bool),l.length ≤ n → chk l k bad = 0 → l.length + 4 * k ≤ 48
  | n,l,k,bad,hn,h => by
    by_cases hl : l = []
    · subst hl
      rw [chk_nil] at h
      unfold finC at h
      split at h
      · cases h
      · split at h
        · cases h
        · simp; omega
    · cases hno : noRune l with
      | true => rw [chk_none hl hno] at h; cases h
      | false =>
        rw [chk_some hl hno] at h
        have hw:=decodeL_width l
        have hle:=decodeL_le l hl
        have h4 : (decodeL l).2 ≤ 4:=by
          rw [decodeL_N]
          rcases decodeN_shape l.length (l.getD 0 0).toNat (l.getD 1 0).toNat (l.getD 2 0).toNat (l.getD 3 0).toNat with ⟨_,e⟩ | ⟨_,_,_,_,e⟩ | ⟨_,_,_,_,_,_,e⟩ | ⟨_,_,_,_,_,_,_,e⟩ | e <;> rw [e] <;> simp
        match n,hn with
        | 0,hn => exact absurd (List.eq_nil_of_length_eq_zero (by omega)) hl
        | n + 1,hn =>
          have:=chk_len n (l.drop (decodeL l).2) (k + 1) _ (by simp; omega) h
          rw [List.length_drop] at this
          omega
theorem check_len {l : List UInt8} (h : checkN l = 0) : l.length ≤ 48:=by have:=chk_len l.length l 0 _ (Nat.le_refl _) h; omega
theorem firstBad_zero {ns : List (List UInt8)} (h : firstBad ns = 0) : ∀ x ∈ ns,checkN x = 0:=by
  induction ns with
  | nil => intro x hx; cases hx
  | cons y r ih =>
    rw [firstBad] at h
    by_cases hy : checkN y ≠ 0
    · rw [if_pos hy] at h; exact absurd h hy
    · rw [if_neg hy] at h
      intro x hx
      rcases List.mem_cons.1 hx with rfl | hx
      · omega
      · exact ih h x hx
theorem dirE_zero {es : List Ent} (h : dirE es = 0) : (∀ e ∈ es,e.1.length ≤ 48) ∧ es.length ≤ 20:=by
  unfold dirE at h
  split at h
  · rename_i h1; exact absurd h h1
  · rename_i h1
    split at h
    · cases h
    · split at h
      · cases h
      · refine ⟨fun e he => check_len (firstBad_zero (by omega : firstBad (nms es) = 0) e.1 (List.mem_map.2 ⟨e,he,rfl⟩)),by omega⟩
open Go.RowKit
section
variable {P : Program} {w : World}
theorem own_append {R : Result Value} {e : TypeId} {i : TypeInfo} {z : Value} (hzs : z.cells.size = i.size) (hsz : 0 < i.size) {v : Value} {n : Nat} {xs : List Value} (hown : w.ownsRow 0 e i.size v n xs) {m : Nat} {news : List Value} (hl : news.length = m * i.size) (h63 : n + m ≤ maxLen)
    (hroom : ∀ g cap cur,v = .slice (some ⟨g,0,none⟩) n cap → w.heap[g]? = some (.cells cur e (0,0)) → n + m ≤ cap → n * i.size + news.length ≤ cur.size → R = .ok (.slice (some ⟨g,0,none⟩) (n + m) cap) (w.setRow g (cur.toList.take (n * i.size) ++ news ++ cur.toList.drop (n * i.size + news.length)).toArray))
    (hgrow : ∀ ba cap,v = .slice ba n cap → cap < n + m → (Builtin.firstCells i.size n v).run P w.drew = .ok xs.toArray w.drew → R = .ok (.slice (some ⟨w.heap.size,0,none⟩) (n + m) (grownCap w (n + m) cap e)) (w.drew.alloc (.cells (xs.toArray ++ news.toArray ++ Builtin.zeroCells z.cells (grownCap w (n + m) cap e - (n + m))) e)))
    (hnone : m = 0 → v = .slice none 0 0 → R = .ok (.slice none 0 0) w) :
    ∃ v' w',R = .ok v' w' ∧ w'.ownsRow 0 e i.size v' (n + m) (xs ++ news) ∧ Chg v.ownBlock.toList w w' ∧ (v'.ownBlock = v.ownBlock ∨ v'.ownBlock = some w.heap.size):=by
  have hlen : (xs ++ news).length = (n + m) * i.size:=by rw [List.length_append,hown.1,hl,Nat.add_mul]
  have grown : ∀ (old : Nat),old < n + m → 
      (w.drew.alloc (.cells (xs.toArray ++ news.toArray ++ Builtin.zeroCells z.cells (grownCap w (n + m) old e - (n + m))) e)).ownsRow 0 e i.size
        (.slice (some ⟨w.heap.size,0,none⟩) (n + m) (grownCap w (n + m) old e)) (n + m) (xs ++ news):=by
    intro old ho
    have hge:=grownCap_ge w (n + m) old e
    have hcm : grownCap w (n + m) old e ≤ maxLen:=grownCap_le_maxLen w (n + m) old e h63
    refine ⟨hlen,.inr ⟨w.heap.size,_,_,rfl,Nat.zero_le _,heap_alloc_new w.drew _,hge,hcm,?_,?_⟩⟩
    · simp only [Array.size_append,List.size_toArray,size_zeroCells,hzs,hown.1,hl,← Nat.add_mul]
      congr 1
      omega
    · simp only [Array.toList_append,List.append_assoc]
      rw [← List.append_assoc,← hlen]
      exact List.take_left
  have hch : ∀ (cs : Array Value) (bl : List Nat),Chg bl w (w.drew.alloc (.cells cs e)):=fun cs bl => ⟨rfl,rfl,rfl,by simp,fun k hk _ => heap_alloc_old w.drew _ hk⟩
  rcases hown.2 with ⟨rfl,rfl⟩ | ⟨g,cap,cur,rfl,hbg,hg,hnc,hcm,hcs,htake⟩
  · have hx : xs = []:=List.eq_nil_of_length_eq_zero (by simpa using hown.1)
    subst hx
    by_cases hm : m = 0
    · subst hm
      have hn : news = []:=List.eq_nil_of_length_eq_zero (by simpa using hl)
      subst hn
      exact ⟨.slice none 0 0,w,hnone rfl rfl,World.ownsRow_nil w 0 e i.size,Chg.refl _ _,.inl rfl⟩
    · have hr:=hgrow none 0 rfl (by omega) (run_firstCells_none w.drew i.size 0 0 0)
      exact ⟨_,_,hr,grown 0 (by omega),hch _ _,.inr rfl⟩
  · by_cases hroom' : n + m ≤ cap
    · have hfit : n * i.size + news.length ≤ cur.size:=by rw [hl,hcs,← Nat.add_mul]; exact Nat.mul_le_mul_right _ hroom'
      have hr:=hroom g cap cur rfl hg hroom' hfit
      refine ⟨_,_,hr,⟨hlen,.inr ⟨g,cap,_,rfl,hbg,setRow_heap w g cur _ e _ hg,hroom',hcm,?_,?_⟩⟩,⟨rfl,rfl,rfl,by simp [World.setRow],fun k _ hk => setRow_other w g k _ (by simpa [Value.ownBlock] using hk)⟩,.inl rfl⟩
      · simp only [List.size_toArray,List.length_append,List.length_take,List.length_drop,Array.length_toList]
        omega
      · rw [htake,← hlen]
        exact List.take_left
    · have holds : ∀ j u,xs[j]? = some u → w.cell? ((⟨g,0,none⟩ : Addr).add j) = some u:=hown.cells (g:=g) rfl
      have hr:=hgrow (some ⟨g,0,none⟩) cap rfl (by omega) (run_firstCells_some w.drew i.size n ⟨g,0,none⟩ n cap xs hown.1 (by simpa using holds))
      exact ⟨_,_,hr,grown cap (by omega),hch _ _,.inr rfl⟩
theorem run_append_str (t tx ty e : TypeId) (i : TypeInfo) (z : Value) (ht : P.underlying t = some (.slice e)) (hk : P.underlying tx = some .string) (hi : P.info? e = some i) (hz : i.zero = some z) (hsize : i.size = 1) (hby : i.bytes = 1) (hzs : z.cells.size = 1)
    {v : Value} {n : Nat} {xs : List Value} (hown : w.ownsRow 0 e 1 v n xs) (l : List UInt8) (h63 : n + l.length ≤ maxLen) (hbytes : n + l.length ≤ 140737488355328) :
    ∃ v' w',(Builtin.append_ #[t,tx] ty #[v,sV l]).run P w = .ok v' w' ∧ w'.ownsRow 0 e 1 v' (n + l.length) (xs ++ bs l) ∧ Chg v.ownBlock.toList w w' ∧ (v'.ownBlock = v.ownBlock ∨ v'.ownBlock = some w.heap.size):=by
  have hb : byteCells (strB l) = bs l:=by simp [byteCells,strB,bs,bv]
  have hsl : (strB l).size = l.length:=strB_size l
  have hsrc:=Src.ofString (P:=P) w hk (strB l)
  rw [hb,hsl] at hsrc
  have hown' : w.ownsRow 0 e i.size v n xs:=by rw [hsize]; exact hown
  have:=own_append (P:=P) (R:=(Builtin.append_ #[t,tx] ty #[v,sV l]).run P w) (z:=z) (by rw [hzs,hsize]) (by omega) hown' (m:=l.length) (news:=bs l) (by rw [bs_length,hsize,Nat.mul_one]) h63
    (fun g cap cur hv hg hroom hfit => by
      subst hv
      have hst:=run_storeCells_at P g (n * i.size) e (bs l) 0 cur w hg (by simpa using hfit) (bs_one _)
      simp only [Nat.add_zero] at hst
      have hf : (Builtin.firstCells i.size l.length (sV l)).run P w = .ok (bs l).toArray w:=by
        have:=firstCells_string (P:=P) (strB l) w
        rwa [hb,hsl,← hsize] at this
      simp [Builtin.append_,run_underlying ht,run_underlying hk,sizeOf,typeInfo,hi,Builtin.lenOf,hsl,hroom,hf,Addr.add_lit,hst])
    (fun ba cap hv hc hold => by
      subst hv
      have h:=run_append_grow_src (P:=P) w t tx ty e i z ht hi hz ba n cap xs hold (sV l) l.length (bs l) (hsize ▸ hsrc) hc (by unfold maxLen at h63; omega) (growslice_fits (by omega) (by rw [hby]; omega))
      rw [h]
      simp)
    (fun hm hv => by
      subst hv
      have hl0 : l = []:=List.eq_nil_of_length_eq_zero hm
      subst hl0
      exact run_append_nothing w t tx ty e i ht hi none 0 0 (Nat.le_refl _) _ (by rw [hsize]; exact hsrc))
  rw [hsize] at this
  exact this
end
section
variable {P : Program} {E : Env} {n : Nat} {K : Slots} {L : Res} {o : Oper} {C : Value → Res → Prop}
theorem OpT_appendStr {t tx r k1 e : Nat} {x y : Operand} {v : Value} {xs : List Value} {l : List UInt8} {i : TypeInfo} {z : Value}
    (ho : o.op = .call { callee:=.builtin .append,args:=#[x,y],argTypes:=#[t,tx] }) (ht : P.underlying t = some (.slice e)) (hk : P.underlying tx = some .string) (hi : P.info? e = some i) (hz : i.zero = some z)
    (hsize : i.size = 1) (hby : i.bytes = 1) (hzs : z.cells.size = 1) (hx : evK K x = some v) (hy : evK K y = some (sV l)) (hr : look L r = some (rowP e 1 v k1 xs))
    (h63 : k1 + l.length ≤ maxLen) (hbytes : k1 + l.length ≤ 140737488355328)
    (k : ∀ v',C v' ((r,rowP e 1 v' (k1 + l.length) (xs ++ bs l)) :: L)) : OpT P E n o K L C:=fun a w Kc Q hA hS hK => by
  obtain ⟨h3,q3,q4⟩:=hS.read hr
  have hOwn:=rowP_own q3 q4
  obtain ⟨v',w',hrun,g1,g2,g3⟩:=run_append_str (P:=P) t tx o.type e i z ht hk hi hz hsize hby hzs hOwn l h63 hbytes
  unfold Oper.wp execOp
  simp only [ho,resolve,invoke,builtin,Sem.run_bind,Sem.run_pure,Result.andThen_ok,List.map_toArray,List.map_cons,List.map_nil,hA.eval hx,hA.eval hy,hrun]
  refine hK _ _ _ (k v') (hS.step hr fun h hp hin => ?_)
  obtain ⟨h',c1,c2,c3⟩:=rowP_of_own g1
  refine ⟨v.ownBlock.toList,h',?_,g2,c1,c2,fun g hg => ?_⟩
  · intro k hk
    simp at hk
    exact rowP_block hp hk
  · have hb:=c3 g hg
    rcases g3 with h4 | h4
    · left; exact rowP_block hp (h4 ▸ hb)
    · right; rw [h4] at hb; injection hb with hb; omega
end
end Go.Proofs.YthkdkmaacjpneaaGreatDoor
namespace Go.Proofs.YthkdkmaacjpneaaGreatDoor
open Go.RowKit Go.Lib
set_option maxRecDepth 8000

theorem wrongR_ref (b : Bool) (r : Nat) : (((b || decide ((r : Int) = 47)) || decide ((r : Int) < 32)) || decide ((r : Int) = 127)) = (b || wrongR r):=by
  rw [← wrongR_eq]
  cases b <;> simp
  cases decide ((r : Int) = 47) <;> simp
theorem oneR_zero {l : List UInt8} (h : decide (((oneR l).2 : Int) = 0) = true) : noRune l = true:=by
  cases hn : noRune l with
  | true => rfl
  | false =>
    have h2:=of_decide_eq_true h
    unfold oneR at h2
    rw [hn] at h2
    have:=decodeL_width l
    simp at h2
    omega
theorem oneR_pos {l : List UInt8} (h : decide (((oneR l).2 : Int) = 0) = false) : noRune l = false:=by
  cases hn : noRune l with
  | false => rfl
  | true =>
    have h2:=of_decide_eq_false h
    unfold oneR at h2
    rw [hn] at h2
    simp at h2
theorem one_rspec (l : List UInt8) (i : Nat) (hi : i < l.length) (hl : l.length ≤ 140737488355328) (F : HP) : CallsS Tryz.prog 78 #[sV l,.int .i64 (i : Int)] F [] (fun v Ps => v = .tuple #[.int .i32 ((oneR (l.drop i)).1 : Int),.int .i64 ((oneR (l.drop i)).2 : Int)] ∧ Ps = []):=by
 have hne : l.drop i ≠ []:=by intro hc; have:=congrArg List.length hc; simp at this; omega
 have hg0 : (l.drop i).getD 0 0 = at0 l i:=by rw [at0_drop]; rfl
 have hb256:=(at0 l i).toNat_lt
 refine callsS_enter Tryz.func78 rfl Tryz.ntmps78 (by simp) (fun E => ?_)
 refine Q9 (R9 (G9 rfl rfl (G9 rfl rfl (N9 (X9 (Q9 (R9 (M9 rfl rfl (M9 rfl rfl (L9 rfl (Pu_idxStrN (i) rfl Tryz.underlying9 rfl rfl rfl hi) (G9 rfl rfl (N9 (X9 (Q9 (R9 (G9 rfl rfl (G9 rfl rfl (N9 (X9 (Q9 ?_))))))))))))))))))))
 refine W_block ?_
 refine Q9 (R9 (M9 rfl rfl (L9 rfl (Pn9 rfl rfl rfl (run_lss _ _ _ _ _ _)) (G9 rfl rfl (N9 (X9 ?_))))))
 refine C9 rfl (fun hc13 => ?_) (fun hc13 => ?_)
 ·
  have h128 : (at0 l i).toNat < 128:=by have:=of_decide_eq_true hc13; omega
  refine Q9 (R9 (M9 rfl rfl (L9 rfl (Pu_conv rfl rfl (conv_u8 _ Tryz.runUnderlying5 Tryz.runUnderlying21)) (G9 rfl rfl (G9 rfl rfl (N9 (X9 ?_)))))))
  refine W_ret (X_block_ret (X_then_ret ?_))
  have hs : oneR (l.drop i) = ((at0 l i).toNat,1):=(oneM_eq _ hne).symm.trans ((oneM_ascii (by rw [hg0]; exact h128)).trans (by rw [hg0]))
  exact Xq9 [] (Ps:=[]) (res2 Tryz.results78 rfl rfl) rfl (by decide) ⟨by rw [hs] <;> rfl,rfl⟩
 ·
  have h128 : ¬ (at0 l i).toNat < 128:=by have:=of_decide_eq_false hc13; omega
  refine Q9 (R9 (M9 rfl rfl (L9 rfl (Pn9 rfl rfl rfl (run_geq _ _ _ _ _ _)) (M9 rfl rfl (Lg9 rfl rfl rfl rfl (by decide) (fun hb => (Pm9 rfl rfl)) (Lg9 rfl rfl rfl rfl (by decide) (fun hb => (Pn9 rfl (ev_gv rfl hb) rfl (run_lss _ _ _ _ _ _))) (L9 rfl (Pu_and rfl rfl rfl) (G9 rfl rfl (N9 (X9 ?_))))))))))
  refine C9 rfl (fun hc18 => ?_) (fun hc18 => ?_)
  ·
   simp only [Bool.and_eq_true,decide_eq_true_eq] at hc18
   refine R9 (M9 rfl rfl (L9 rfl (Pn9 rfl rfl rfl (run_and31 _ _ _ _)) (L9 rfl (Pu_conv rfl rfl (conv_small _ (by omega) Tryz.runUnderlying5 Tryz.runUnderlying21)) (G9 rfl rfl (G9 rfl rfl (N9 (X_block (X9 (Q9 (Q9 ?_))))))))))
   have hld : lead ((l.drop i).getD 0 0).toNat = (2,(at0 l i).toNat % 32):=by rw [hg0]; unfold lead; rw [if_pos (by omega)]
   refine R9 (M9 rfl rfl (L9 rfl (Pn9 rfl rfl rfl (run_eql _ _ _ _ _ _)) (M9 rfl rfl (Lg9 rfl rfl rfl rfl (by decide) (fun hb => (Pm9 rfl rfl)) (Lg9 rfl rfl rfl rfl (by decide) (fun hb => (Pm9 rfl rfl)) (Lg9 rfl rfl rfl rfl (by decide) (fun hb => (Pn9 rfl (ev_gv rfl hb) (ev_gv rfl hb) (run_add _ _ _ _ _ (by omega)))) (Lg9 rfl rfl rfl rfl (by decide) (fun hb => (Pm9 rfl rfl)) (Lg9 rfl rfl rfl rfl (by decide) (fun hb => (Pu_lenStr rfl Tryz.underlying9 (ev_gv rfl hb))) (Lg9 rfl rfl rfl rfl (by decide) (fun hb => (Pn9 rfl (ev_gv rfl hb) (ev_gv rfl hb) (run_gtr _ _ _ _ _ _))) (L9 rfl (Pu_or rfl rfl rfl) (N9 (X9 ?_))))))))))))
   refine C9 rfl (fun hc57 => ?_) (fun hc57 => ?_)
   ·
    have hsh : l.length < i + 2:=by simp only [Bool.or_eq_true,decide_eq_true_eq] at hc57; omega
    refine Q9 (R9 (G9 rfl rfl (G9 rfl rfl (N9 (X9 ?_)))))
    refine W_ret (X_then_ret ?_)
    have hs : oneR (l.drop i) = (0,0):=(oneM_eq _ hne).symm.trans (oneM_short (by rw [hg0]; exact h128) hld (.inr (by rw [List.length_drop]; omega)))
    exact Xq9 [] (Ps:=[]) (res2 Tryz.results78 rfl rfl) rfl (by decide) ⟨by rw [hs] <;> rfl,rfl⟩
   ·
    have hsh : i + 2 ≤ l.length:=by simp only [Bool.or_eq_false_iff,decide_eq_false_iff_not] at hc57; omega
    refine K9 (X9 ?_)
    refine Q9 (Q9 (R9 (G9 rfl rfl (N9 (X9 ?_)))))
    refine W_block ?_
    refine W_loop (α:=Nat × Nat) (fun x => [(0,sV l),(1,.int .i64 (i : Int)),(7,.int .i64 2),(8,.int .i32 (x.2 : Int)),(9,.int .i64 (x.1 : Int))]) (fun x => [(0,F)]) (fun x => restF (l.drop i) 2 (5 - x.1) x.1 x.2 = restF (l.drop i) 2 4 1 ((at0 l i).toNat % 32) ∧ ((x.1 = 1 ∧ x.2 < 32) ∨ (x.1 = 2 ∧ x.2 < 2048) ∨ (x.1 = 3 ∧ x.2 < 131072) ∨ (x.1 = 4 ∧ x.2 < 8388608)) ∧ x.1 ≤ 2) (fun x => 2 - x.1) ((1,(at0 l i).toNat % 32)) ⟨rfl,.inl ⟨rfl,by dsimp only; omega⟩,by dsimp only; omega⟩ (a9 rfl) ⟨rfl,trivial⟩ (fun x hx => ?_)
    obtain ⟨hrs,hbd,hxn⟩:=hx
    refine Q9 (Q9 (R9 (M9 rfl rfl (M9 rfl rfl (L9 rfl (Pn9 rfl rfl rfl (run_lss _ _ _ _ _ _)) (N9 (X9 ?_)))))))
    refine C9 rfl (fun hc60 => ?_) (fun hc60 => ?_)
    ·
     have hlt : x.1 < 2:=by have:=of_decide_eq_true hc60; omega
     refine K9 (X9 ?_)
     refine Q9 ?_
     refine W_block ?_
     refine Q9 (Q9 (R9 (M9 rfl rfl (M9 rfl rfl (M9 rfl rfl (L9 rfl (Pn9 rfl rfl rfl (run_add _ _ _ _ _ (by omega))) (L9 rfl (Pu_idxStrN (i + x.1) rfl Tryz.underlying9 rfl rfl (by omega) (by omega)) (L9 rfl (Pn9 rfl rfl rfl (run_and192 _ _ _ _)) (L9 rfl (Pn9 rfl rfl rfl (run_neq _ _ _ _ _ _)) (N9 (X9 ?_)))))))))))
     refine C9 rfl (fun hc69 => ?_) (fun hc69 => ?_)
     ·
      have h2 : ¬ (at0 l (i + x.1)).toNat / 64 = 2:=by simp at hc69; omega
      refine Q9 (R9 (G9 rfl rfl (G9 rfl rfl (N9 (X9 ?_)))))
      refine W_ret (X_then_ret (X_block_ret (X_then_ret (X_then_ret (X_block_ret (X_then_ret ?_))))))
      have hs : oneR (l.drop i) = (0,0):=(oneM_eq _ hne).symm.trans (oneM_none (by rw [hg0]; exact h128) hld (by rw [List.length_drop]; omega) (by rw [← hrs,show 5 - x.1 = (4 - x.1) + 1 by omega]; exact restF_bad hlt (by rw [at0_drop]; exact h2)))
      exact Xq9 [] (Ps:=[]) (res2 Tryz.results78 rfl rfl) rfl (by decide) ⟨by rw [hs] <;> rfl,rfl⟩
     ·
      have h2 : (at0 l (i + x.1)).toNat / 64 = 2:=by simp at hc69; omega
      refine K9 (X9 ?_)
      refine R9 (M9 rfl rfl (L9 rfl (Pn9 rfl rfl rfl (run_shl6 _ _ _ _ (by omega))) (M9 rfl rfl (M9 rfl rfl (M9 rfl rfl (L9 rfl (Pn9 rfl rfl rfl (run_add _ _ _ _ _ (by omega))) (L9 rfl (Pu_idxStrN (i + x.1) rfl Tryz.underlying9 rfl rfl (by omega) (by omega)) (L9 rfl (Pn9 rfl rfl rfl (run_and63 _ _ _ _)) (L9 rfl (Pu_conv rfl rfl (conv_small _ (by omega) Tryz.runUnderlying5 Tryz.runUnderlying21)) (L9 rfl (Pn9 rfl rfl rfl (run_or6 _ _ (by omega) (by omega) _ _ _)) (G9 rfl rfl (N9 (X_block (X9 (R9 (M9 rfl rfl (L9 rfl (Pn9 rfl rfl rfl (run_add _ _ _ _ _ (by omega))) (G9 rfl rfl (N9 ?_)))))))))))))))))))
      exact Xr9 (x.1 + 1,x.2 * 64 + (at0 l (i + x.1)).toNat % 64) ⟨by rw [← hrs,show 5 - x.1 = (4 - x.1) + 1 by omega,restF_ok hlt (by rw [at0_drop]; exact h2),at0_drop]; dsimp only; rw [show 5 - (x.1 + 1) = 4 - x.1 by omega],by dsimp only; omega,by dsimp only; omega⟩ (by dsimp only; omega) (a9 rfl) ⟨rfl,trivial⟩
    ·
     have hge : 2 ≤ x.1:=by have:=of_decide_eq_false hc60; omega
     refine W_exit (X_then_exit (X_then_exit (X_block_exit (X9 ?_))))
     refine Q9 (Q9 (R9 (M9 rfl rfl (L9 rfl (Pn9 rfl rfl rfl (run_gtr _ _ _ _ _ _)) (M9 rfl rfl (Lg9 rfl rfl rfl rfl (by decide) (fun hb => (Pm9 rfl rfl)) (Lg9 rfl rfl rfl rfl (by decide) (fun hb => (Pn9 rfl (ev_gv rfl hb) rfl (run_geq _ _ _ _ _ _))) (Lg9 rfl rfl rfl rfl (by decide) (fun hb => (Pm9 rfl (ev_gv rfl hb))) (WL_guardP2 rfl rfl rfl rfl (by decide) (fun hb => (Pm9 rfl rfl)) (WL_guardP2 rfl rfl rfl rfl (by decide) (fun hb => (Pn9 rfl (ev_gv rfl hb) rfl (run_leq _ _ _ _ _ _))) (Lg9 rfl rfl rfl rfl (by decide) (fun hb => (Pu_and2 hb rfl (ev_gv rfl hb) rfl)) (L9 rfl (Pu_or rfl rfl rfl) (M9 rfl rfl (Lg9 rfl rfl rfl rfl (by decide) (fun hb => (Pm9 rfl rfl)) (Lg9 rfl rfl rfl rfl (by decide) (fun hb => (Pn9 rfl (ev_gv rfl hb) rfl (run_eql _ _ _ _ _ _))) (Lg9 rfl rfl rfl rfl (by decide) (fun hb => (Pm9 rfl (ev_gv rfl hb))) (WL_guardP2 rfl rfl rfl rfl (by decide) (fun hb => (Pm9 rfl rfl)) (WL_guardP2 rfl rfl rfl rfl (by decide) (fun hb => (Pn9 rfl (ev_gv rfl hb) rfl (run_lss _ _ _ _ _ _))) (Lg9 rfl rfl rfl rfl (by decide) (fun hb => (Pu_and2 hb rfl (ev_gv rfl hb) rfl)) (L9 rfl (Pu_or rfl rfl rfl) (M9 rfl rfl (Lg9 rfl rfl rfl rfl (by decide) (fun hb => (Pm9 rfl rfl)) (Lg9 rfl rfl rfl rfl (by decide) (fun hb => (Pn9 rfl (ev_gv rfl hb) rfl (run_eql _ _ _ _ _ _))) (Lg9 rfl rfl rfl rfl (by decide) (fun hb => (Pm9 rfl (ev_gv rfl hb))) (WL_guardP2 rfl rfl rfl rfl (by decide) (fun hb => (Pm9 rfl rfl)) (WL_guardP2 rfl rfl rfl rfl (by decide) (fun hb => (Pn9 rfl (ev_gv rfl hb) rfl (run_lss _ _ _ _ _ _))) (Lg9 rfl rfl rfl rfl (by decide) (fun hb => (Pu_and2 hb rfl (ev_gv rfl hb) rfl)) (L9 rfl (Pu_or rfl rfl rfl) (M9 rfl rfl (Lg9 rfl rfl rfl rfl (by decide) (fun hb => (Pm9 rfl rfl)) (Lg9 rfl rfl rfl rfl (by decide) (fun hb => (Pn9 rfl (ev_gv rfl hb) rfl (run_eql _ _ _ _ _ _))) (Lg9 rfl rfl rfl rfl (by decide) (fun hb => (Pm9 rfl (ev_gv rfl hb))) (WL_guardP2 rfl rfl rfl rfl (by decide) (fun hb => (Pm9 rfl rfl)) (WL_guardP2 rfl rfl rfl rfl (by decide) (fun hb => (Pn9 rfl (ev_gv rfl hb) rfl (run_lss _ _ _ _ _ _))) (Lg9 rfl rfl rfl rfl (by decide) (fun hb => (Pu_and2 hb rfl (ev_gv rfl hb) rfl)) (L9 rfl (Pu_or rfl rfl rfl) (N9 (X9 ?_))))))))))))))))))))))))))))))))))))))
     refine C9 rfl (fun hc113 => ?_) (fun hc113 => ?_)
     ·
      simp only [Bool.or_eq_true,Bool.and_eq_true,decide_eq_true_eq,true_and] at hc113
      refine Q9 (R9 (G9 rfl rfl (G9 rfl rfl (N9 (X9 ?_)))))
      refine W_ret (X_then_ret ?_)
      have hs : oneR (l.drop i) = (0,0):=(oneM_eq _ hne).symm.trans ((oneM_some (by rw [hg0]; exact h128) hld (by rw [List.length_drop]; omega) (by rw [← hrs]; exact restF_end hge _)).trans (by unfold finO; rw [if_pos (by omega)]))
      exact Xq9 [] (Ps:=[]) (res2 Tryz.results78 rfl rfl) rfl (by decide) ⟨by rw [hs] <;> rfl,rfl⟩
     ·
      simp only [Bool.or_eq_false_iff,Bool.and_eq_false_iff,decide_eq_false_iff_not,not_true_eq_false,false_or] at hc113
      refine K9 (X9 ?_)
      refine Q9 (R9 (M9 rfl rfl (M9 rfl rfl (G9 rfl rfl (G9 rfl rfl (N9 (X9 ?_)))))))
      refine W_ret ?_
      have hs : oneR (l.drop i) = (x.2,2):=(oneM_eq _ hne).symm.trans ((oneM_some (by rw [hg0]; exact h128) hld (by rw [List.length_drop]; omega) (by rw [← hrs]; exact restF_end hge _)).trans (by unfold finO; rw [if_neg (by omega)]))
      exact Xq9 [] (Ps:=[]) (res2 Tryz.results78 rfl rfl) rfl (by decide) ⟨by rw [hs] <;> rfl,rfl⟩
  ·
   simp only [Bool.and_eq_false_iff,decide_eq_false_iff_not] at hc18
   refine Q9 (R9 (M9 rfl rfl (L9 rfl (Pn9 rfl rfl rfl (run_geq _ _ _ _ _ _)) (M9 rfl rfl (Lg9 rfl rfl rfl rfl (by decide) (fun hb => (Pm9 rfl rfl)) (Lg9 rfl rfl rfl rfl (by decide) (fun hb => (Pn9 rfl (ev_gv rfl hb) rfl (run_lss _ _ _ _ _ _))) (L9 rfl (Pu_and rfl rfl rfl) (G9 rfl rfl (N9 (X9 ?_))))))))))
   refine C9 rfl (fun hc28 => ?_) (fun hc28 => ?_)
   ·
    simp only [Bool.and_eq_true,decide_eq_true_eq] at hc28
    refine R9 (M9 rfl rfl (L9 rfl (Pn9 rfl rfl rfl (run_and15 _ _ _ _)) (L9 rfl (Pu_conv rfl rfl (conv_small _ (by omega) Tryz.runUnderlying5 Tryz.runUnderlying21)) (G9 rfl rfl (G9 rfl rfl (N9 (X_block (X9 (Q9 (Q9 ?_))))))))))
    have hld : lead ((l.drop i).getD 0 0).toNat = (3,(at0 l i).toNat % 16):=by rw [hg0]; unfold lead; rw [if_neg (by omega),if_pos (by omega)]
    refine R9 (M9 rfl rfl (L9 rfl (Pn9 rfl rfl rfl (run_eql _ _ _ _ _ _)) (M9 rfl rfl (Lg9 rfl rfl rfl rfl (by decide) (fun hb => (Pm9 rfl rfl)) (Lg9 rfl rfl rfl rfl (by decide) (fun hb => (Pm9 rfl rfl)) (Lg9 rfl rfl rfl rfl (by decide) (fun hb => (Pn9 rfl (ev_gv rfl hb) (ev_gv rfl hb) (run_add _ _ _ _ _ (by omega)))) (Lg9 rfl rfl rfl rfl (by decide) (fun hb => (Pm9 rfl rfl)) (Lg9 rfl rfl rfl rfl (by decide) (fun hb => (Pu_lenStr rfl Tryz.underlying9 (ev_gv rfl hb))) (Lg9 rfl rfl rfl rfl (by decide) (fun hb => (Pn9 rfl (ev_gv rfl hb) (ev_gv rfl hb) (run_gtr _ _ _ _ _ _))) (L9 rfl (Pu_or rfl rfl rfl) (N9 (X9 ?_))))))))))))
    refine C9 rfl (fun hc57 => ?_) (fun hc57 => ?_)
    ·
     have hsh : l.length < i + 3:=by simp only [Bool.or_eq_true,decide_eq_true_eq] at hc57; omega
     refine Q9 (R9 (G9 rfl rfl (G9 rfl rfl (N9 (X9 ?_)))))
     refine W_ret (X_then_ret ?_)
     have hs : oneR (l.drop i) = (0,0):=(oneM_eq _ hne).symm.trans (oneM_short (by rw [hg0]; exact h128) hld (.inr (by rw [List.length_drop]; omega)))
     exact Xq9 [] (Ps:=[]) (res2 Tryz.results78 rfl rfl) rfl (by decide) ⟨by rw [hs] <;> rfl,rfl⟩
    ·
     have hsh : i + 3 ≤ l.length:=by simp only [Bool.or_eq_false_iff,decide_eq_false_iff_not] at hc57; omega
     refine K9 (X9 ?_)
     refine Q9 (Q9 (R9 (G9 rfl rfl (N9 (X9 ?_)))))
     refine W_block ?_
     refine W_loop (α:=Nat × Nat) (fun x => [(0,sV l),(1,.int .i64 (i : Int)),(7,.int .i64 3),(8,.int .i32 (x.2 : Int)),(9,.int .i64 (x.1 : Int))]) (fun x => [(0,F)]) (fun x => restF (l.drop i) 3 (5 - x.1) x.1 x.2 = restF (l.drop i) 3 4 1 ((at0 l i).toNat % 16) ∧ ((x.1 = 1 ∧ x.2 < 32) ∨ (x.1 = 2 ∧ x.2 < 2048) ∨ (x.1 = 3 ∧ x.2 < 131072) ∨ (x.1 = 4 ∧ x.2 < 8388608)) ∧ x.1 ≤ 3) (fun x => 3 - x.1) ((1,(at0 l i).toNat % 16)) ⟨rfl,.inl ⟨rfl,by dsimp only; omega⟩,by dsimp only; omega⟩ (a9 rfl) ⟨rfl,trivial⟩ (fun x hx => ?_)
     obtain ⟨hrs,hbd,hxn⟩:=hx
     refine Q9 (Q9 (R9 (M9 rfl rfl (M9 rfl rfl (L9 rfl (Pn9 rfl rfl rfl (run_lss _ _ _ _ _ _)) (N9 (X9 ?_)))))))
     refine C9 rfl (fun hc60 => ?_) (fun hc60 => ?_)
     ·
      have hlt : x.1 < 3:=by have:=of_decide_eq_true hc60; omega
      refine K9 (X9 ?_)
      refine Q9 ?_
      refine W_block ?_
      refine Q9 (Q9 (R9 (M9 rfl rfl (M9 rfl rfl (M9 rfl rfl (L9 rfl (Pn9 rfl rfl rfl (run_add _ _ _ _ _ (by omega))) (L9 rfl (Pu_idxStrN (i + x.1) rfl Tryz.underlying9 rfl rfl (by omega) (by omega)) (L9 rfl (Pn9 rfl rfl rfl (run_and192 _ _ _ _)) (L9 rfl (Pn9 rfl rfl rfl (run_neq _ _ _ _ _ _)) (N9 (X9 ?_)))))))))))
      refine C9 rfl (fun hc69 => ?_) (fun hc69 => ?_)
      ·
       have h2 : ¬ (at0 l (i + x.1)).toNat / 64 = 2:=by simp at hc69; omega
       refine Q9 (R9 (G9 rfl rfl (G9 rfl rfl (N9 (X9 ?_)))))
       refine W_ret (X_then_ret (X_block_ret (X_then_ret (X_then_ret (X_block_ret (X_then_ret ?_))))))
       have hs : oneR (l.drop i) = (0,0):=(oneM_eq _ hne).symm.trans (oneM_none (by rw [hg0]; exact h128) hld (by rw [List.length_drop]; omega) (by rw [← hrs,show 5 - x.1 = (4 - x.1) + 1 by omega]; exact restF_bad hlt (by rw [at0_drop]; exact h2)))
       exact Xq9 [] (Ps:=[]) (res2 Tryz.results78 rfl rfl) rfl (by decide) ⟨by rw [hs] <;> rfl,rfl⟩
      ·
       have h2 : (at0 l (i + x.1)).toNat / 64 = 2:=by simp at hc69; omega
       refine K9 (X9 ?_)
       refine R9 (M9 rfl rfl (L9 rfl (Pn9 rfl rfl rfl (run_shl6 _ _ _ _ (by omega))) (M9 rfl rfl (M9 rfl rfl (M9 rfl rfl (L9 rfl (Pn9 rfl rfl rfl (run_add _ _ _ _ _ (by omega))) (L9 rfl (Pu_idxStrN (i + x.1) rfl Tryz.underlying9 rfl rfl (by omega) (by omega)) (L9 rfl (Pn9 rfl rfl rfl (run_and63 _ _ _ _)) (L9 rfl (Pu_conv rfl rfl (conv_small _ (by omega) Tryz.runUnderlying5 Tryz.runUnderlying21)) (L9 rfl (Pn9 rfl rfl rfl (run_or6 _ _ (by omega) (by omega) _ _ _)) (G9 rfl rfl (N9 (X_block (X9 (R9 (M9 rfl rfl (L9 rfl (Pn9 rfl rfl rfl (run_add _ _ _ _ _ (by omega))) (G9 rfl rfl (N9 ?_)))))))))))))))))))
       exact Xr9 (x.1 + 1,x.2 * 64 + (at0 l (i + x.1)).toNat % 64) ⟨by rw [← hrs,show 5 - x.1 = (4 - x.1) + 1 by omega,restF_ok hlt (by rw [at0_drop]; exact h2),at0_drop]; dsimp only; rw [show 5 - (x.1 + 1) = 4 - x.1 by omega],by dsimp only; omega,by dsimp only; omega⟩ (by dsimp only; omega) (a9 rfl) ⟨rfl,trivial⟩
     ·
      have hge : 3 ≤ x.1:=by have:=of_decide_eq_false hc60; omega
      refine W_exit (X_then_exit (X_then_exit (X_block_exit (X9 ?_))))
      refine Q9 (Q9 (R9 (M9 rfl rfl (L9 rfl (Pn9 rfl rfl rfl (run_gtr _ _ _ _ _ _)) (M9 rfl rfl (Lg9 rfl rfl rfl rfl (by decide) (fun hb => (Pm9 rfl rfl)) (Lg9 rfl rfl rfl rfl (by decide) (fun hb => (Pn9 rfl (ev_gv rfl hb) rfl (run_geq _ _ _ _ _ _))) (Lg9 rfl rfl rfl rfl (by decide) (fun hb => (Pm9 rfl (ev_gv rfl hb))) (WL_guardP2 rfl rfl rfl rfl (by decide) (fun hb => (Pm9 rfl rfl)) (WL_guardP2 rfl rfl rfl rfl (by decide) (fun hb => (Pn9 rfl (ev_gv rfl hb) rfl (run_leq _ _ _ _ _ _))) (Lg9 rfl rfl rfl rfl (by decide) (fun hb => (Pu_and2 hb rfl (ev_gv rfl hb) rfl)) (L9 rfl (Pu_or rfl rfl rfl) (M9 rfl rfl (Lg9 rfl rfl rfl rfl (by decide) (fun hb => (Pm9 rfl rfl)) (Lg9 rfl rfl rfl rfl (by decide) (fun hb => (Pn9 rfl (ev_gv rfl hb) rfl (run_eql _ _ _ _ _ _))) (Lg9 rfl rfl rfl rfl (by decide) (fun hb => (Pm9 rfl (ev_gv rfl hb))) (WL_guardP2 rfl rfl rfl rfl (by decide) (fun hb => (Pm9 rfl rfl)) (WL_guardP2 rfl rfl rfl rfl (by decide) (fun hb => (Pn9 rfl (ev_gv rfl hb) rfl (run_lss _ _ _ _ _ _))) (Lg9 rfl rfl rfl rfl (by decide) (fun hb => (Pu_and2 hb rfl (ev_gv rfl hb) rfl)) (L9 rfl (Pu_or rfl rfl rfl) (M9 rfl rfl (Lg9 rfl rfl rfl rfl (by decide) (fun hb => (Pm9 rfl rfl)) (Lg9 rfl rfl rfl rfl (by decide) (fun hb => (Pn9 rfl (ev_gv rfl hb) rfl (run_eql _ _ _ _ _ _))) (Lg9 rfl rfl rfl rfl (by decide) (fun hb => (Pm9 rfl (ev_gv rfl hb))) (WL_guardP2 rfl rfl rfl rfl (by decide) (fun hb => (Pm9 rfl rfl)) (WL_guardP2 rfl rfl rfl rfl (by decide) (fun hb => (Pn9 rfl (ev_gv rfl hb) rfl (run_lss _ _ _ _ _ _))) (Lg9 rfl rfl rfl rfl (by decide) (fun hb => (Pu_and2 hb rfl (ev_gv rfl hb) rfl)) (L9 rfl (Pu_or rfl rfl rfl) (M9 rfl rfl (Lg9 rfl rfl rfl rfl (by decide) (fun hb => (Pm9 rfl rfl)) (Lg9 rfl rfl rfl rfl (by decide) (fun hb => (Pn9 rfl (ev_gv rfl hb) rfl (run_eql _ _ _ _ _ _))) (Lg9 rfl rfl rfl rfl (by decide) (fun hb => (Pm9 rfl (ev_gv rfl hb))) (WL_guardP2 rfl rfl rfl rfl (by decide) (fun hb => (Pm9 rfl rfl)) (WL_guardP2 rfl rfl rfl rfl (by decide) (fun hb => (Pn9 rfl (ev_gv rfl hb) rfl (run_lss _ _ _ _ _ _))) (Lg9 rfl rfl rfl rfl (by decide) (fun hb => (Pu_and2 hb rfl (ev_gv rfl hb) rfl)) (L9 rfl (Pu_or rfl rfl rfl) (N9 (X9 ?_))))))))))))))))))))))))))))))))))))))
      refine C9 rfl (fun hc113 => ?_) (fun hc113 => ?_)
      ·
       simp only [Bool.or_eq_true,Bool.and_eq_true,decide_eq_true_eq,true_and] at hc113
       refine Q9 (R9 (G9 rfl rfl (G9 rfl rfl (N9 (X9 ?_)))))
       refine W_ret (X_then_ret ?_)
       have hs : oneR (l.drop i) = (0,0):=(oneM_eq _ hne).symm.trans ((oneM_some (by rw [hg0]; exact h128) hld (by rw [List.length_drop]; omega) (by rw [← hrs]; exact restF_end hge _)).trans (by unfold finO; rw [if_pos (by omega)]))
       exact Xq9 [] (Ps:=[]) (res2 Tryz.results78 rfl rfl) rfl (by decide) ⟨by rw [hs] <;> rfl,rfl⟩
      ·
       simp only [Bool.or_eq_false_iff,Bool.and_eq_false_iff,decide_eq_false_iff_not,not_true_eq_false,false_or] at hc113
       refine K9 (X9 ?_)
       refine Q9 (R9 (M9 rfl rfl (M9 rfl rfl (G9 rfl rfl (G9 rfl rfl (N9 (X9 ?_)))))))
       refine W_ret ?_
       have hs : oneR (l.drop i) = (x.2,3):=(oneM_eq _ hne).symm.trans ((oneM_some (by rw [hg0]; exact h128) hld (by rw [List.length_drop]; omega) (by rw [← hrs]; exact restF_end hge _)).trans (by unfold finO; rw [if_neg (by omega)]))
       exact Xq9 [] (Ps:=[]) (res2 Tryz.results78 rfl rfl) rfl (by decide) ⟨by rw [hs] <;> rfl,rfl⟩
   ·
    simp only [Bool.and_eq_false_iff,decide_eq_false_iff_not] at hc28
    refine Q9 (R9 (M9 rfl rfl (L9 rfl (Pn9 rfl rfl rfl (run_geq _ _ _ _ _ _)) (M9 rfl rfl (Lg9 rfl rfl rfl rfl (by decide) (fun hb => (Pm9 rfl rfl)) (Lg9 rfl rfl rfl rfl (by decide) (fun hb => (Pn9 rfl (ev_gv rfl hb) rfl (run_lss _ _ _ _ _ _))) (L9 rfl (Pu_and rfl rfl rfl) (G9 rfl rfl (N9 (X9 ?_))))))))))
    refine C9 rfl (fun hc38 => ?_) (fun hc38 => ?_)
    ·
     simp only [Bool.and_eq_true,decide_eq_true_eq] at hc38
     refine R9 (M9 rfl rfl (L9 rfl (Pn9 rfl rfl rfl (run_and7 _ _ _ _)) (L9 rfl (Pu_conv rfl rfl (conv_small _ (by omega) Tryz.runUnderlying5 Tryz.runUnderlying21)) (G9 rfl rfl (G9 rfl rfl (N9 (X_block (X9 (Q9 (Q9 ?_))))))))))
     have hld : lead ((l.drop i).getD 0 0).toNat = (4,(at0 l i).toNat % 8):=by rw [hg0]; unfold lead; rw [if_neg (by omega),if_neg (by omega),if_pos (by omega)]
     refine R9 (M9 rfl rfl (L9 rfl (Pn9 rfl rfl rfl (run_eql _ _ _ _ _ _)) (M9 rfl rfl (Lg9 rfl rfl rfl rfl (by decide) (fun hb => (Pm9 rfl rfl)) (Lg9 rfl rfl rfl rfl (by decide) (fun hb => (Pm9 rfl rfl)) (Lg9 rfl rfl rfl rfl (by decide) (fun hb => (Pn9 rfl (ev_gv rfl hb) (ev_gv rfl hb) (run_add _ _ _ _ _ (by omega)))) (Lg9 rfl rfl rfl rfl (by decide) (fun hb => (Pm9 rfl rfl)) (Lg9 rfl rfl rfl rfl (by decide) (fun hb => (Pu_lenStr rfl Tryz.underlying9 (ev_gv rfl hb))) (Lg9 rfl rfl rfl rfl (by decide) (fun hb => (Pn9 rfl (ev_gv rfl hb) (ev_gv rfl hb) (run_gtr _ _ _ _ _ _))) (L9 rfl (Pu_or rfl rfl rfl) (N9 (X9 ?_))))))))))))
     refine C9 rfl (fun hc57 => ?_) (fun hc57 => ?_)
     ·
      have hsh : l.length < i + 4:=by simp only [Bool.or_eq_true,decide_eq_true_eq] at hc57; omega
      refine Q9 (R9 (G9 rfl rfl (G9 rfl rfl (N9 (X9 ?_)))))
      refine W_ret (X_then_ret ?_)
      have hs : oneR (l.drop i) = (0,0):=(oneM_eq _ hne).symm.trans (oneM_short (by rw [hg0]; exact h128) hld (.inr (by rw [List.length_drop]; omega)))
      exact Xq9 [] (Ps:=[]) (res2 Tryz.results78 rfl rfl) rfl (by decide) ⟨by rw [hs] <;> rfl,rfl⟩
     ·
      have hsh : i + 4 ≤ l.length:=by simp only [Bool.or_eq_false_iff,decide_eq_false_iff_not] at hc57; omega
      refine K9 (X9 ?_)
      refine Q9 (Q9 (R9 (G9 rfl rfl (N9 (X9 ?_)))))
      refine W_block ?_
      refine W_loop (α:=Nat × Nat) (fun x => [(0,sV l),(1,.int .i64 (i : Int)),(7,.int .i64 4),(8,.int .i32 (x.2 : Int)),(9,.int .i64 (x.1 : Int))]) (fun x => [(0,F)]) (fun x => restF (l.drop i) 4 (5 - x.1) x.1 x.2 = restF (l.drop i) 4 4 1 ((at0 l i).toNat % 8) ∧ ((x.1 = 1 ∧ x.2 < 32) ∨ (x.1 = 2 ∧ x.2 < 2048) ∨ (x.1 = 3 ∧ x.2 < 131072) ∨ (x.1 = 4 ∧ x.2 < 8388608)) ∧ x.1 ≤ 4) (fun x => 4 - x.1) ((1,(at0 l i).toNat % 8)) ⟨rfl,.inl ⟨rfl,by dsimp only; omega⟩,by dsimp only; omega⟩ (a9 rfl) ⟨rfl,trivial⟩ (fun x hx => ?_)
      obtain ⟨hrs,hbd,hxn⟩:=hx
      refine Q9 (Q9 (R9 (M9 rfl rfl (M9 rfl rfl (L9 rfl (Pn9 rfl rfl rfl (run_lss _ _ _ _ _ _)) (N9 (X9 ?_)))))))
      refine C9 rfl (fun hc60 => ?_) (fun hc60 => ?_)
      ·
       have hlt : x.1 < 4:=by have:=of_decide_eq_true hc60; omega
       refine K9 (X9 ?_)
       refine Q9 ?_
       refine W_block ?_
       refine Q9 (Q9 (R9 (M9 rfl rfl (M9 rfl rfl (M9 rfl rfl (L9 rfl (Pn9 rfl rfl rfl (run_add _ _ _ _ _ (by omega))) (L9 rfl (Pu_idxStrN (i + x.1) rfl Tryz.underlying9 rfl rfl (by omega) (by omega)) (L9 rfl (Pn9 rfl rfl rfl (run_and192 _ _ _ _)) (L9 rfl (Pn9 rfl rfl rfl (run_neq _ _ _ _ _ _)) (N9 (X9 ?_)))))))))))
       refine C9 rfl (fun hc69 => ?_) (fun hc69 => ?_)
       ·
        have h2 : ¬ (at0 l (i + x.1)).toNat / 64 = 2:=by simp at hc69; omega
        refine Q9 (R9 (G9 rfl rfl (G9 rfl rfl (N9 (X9 ?_)))))
        refine W_ret (X_then_ret (X_block_ret (X_then_ret (X_then_ret (X_block_ret (X_then_ret ?_))))))
        have hs : oneR (l.drop i) = (0,0):=(oneM_eq _ hne).symm.trans (oneM_none (by rw [hg0]; exact h128) hld (by rw [List.length_drop]; omega) (by rw [← hrs,show 5 - x.1 = (4 - x.1) + 1 by omega]; exact restF_bad hlt (by rw [at0_drop]; exact h2)))
        exact Xq9 [] (Ps:=[]) (res2 Tryz.results78 rfl rfl) rfl (by decide) ⟨by rw [hs] <;> rfl,rfl⟩
       ·
        have h2 : (at0 l (i + x.1)).toNat / 64 = 2:=by simp at hc69; omega
        refine K9 (X9 ?_)
        refine R9 (M9 rfl rfl (L9 rfl (Pn9 rfl rfl rfl (run_shl6 _ _ _ _ (by omega))) (M9 rfl rfl (M9 rfl rfl (M9 rfl rfl (L9 rfl (Pn9 rfl rfl rfl (run_add _ _ _ _ _ (by omega))) (L9 rfl (Pu_idxStrN (i + x.1) rfl Tryz.underlying9 rfl rfl (by omega) (by omega)) (L9 rfl (Pn9 rfl rfl rfl (run_and63 _ _ _ _)) (L9 rfl (Pu_conv rfl rfl (conv_small _ (by omega) Tryz.runUnderlying5 Tryz.runUnderlying21)) (L9 rfl (Pn9 rfl rfl rfl (run_or6 _ _ (by omega) (by omega) _ _ _)) (G9 rfl rfl (N9 (X_block (X9 (R9 (M9 rfl rfl (L9 rfl (Pn9 rfl rfl rfl (run_add _ _ _ _ _ (by omega))) (G9 rfl rfl (N9 ?_)))))))))))))))))))
        exact Xr9 (x.1 + 1,x.2 * 64 + (at0 l (i + x.1)).toNat % 64) ⟨by rw [← hrs,show 5 - x.1 = (4 - x.1) + 1 by omega,restF_ok hlt (by rw [at0_drop]; exact h2),at0_drop]; dsimp only; rw [show 5 - (x.1 + 1) = 4 - x.1 by omega],by dsimp only; omega,by dsimp only; omega⟩ (by dsimp only; omega) (a9 rfl) ⟨rfl,trivial⟩
      ·
       have hge : 4 ≤ x.1:=by have:=of_decide_eq_false hc60; omega
       refine W_exit (X_then_exit (X_then_exit (X_block_exit (X9 ?_))))
       refine Q9 (Q9 (R9 (M9 rfl rfl (L9 rfl (Pn9 rfl rfl rfl (run_gtr _ _ _ _ _ _)) (M9 rfl rfl (Lg9 rfl rfl rfl rfl (by decide) (fun hb => (Pm9 rfl rfl)) (Lg9 rfl rfl rfl rfl (by decide) (fun hb => (Pn9 rfl (ev_gv rfl hb) rfl (run_geq _ _ _ _ _ _))) (Lg9 rfl rfl rfl rfl (by decide) (fun hb => (Pm9 rfl (ev_gv rfl hb))) (WL_guardP2 rfl rfl rfl rfl (by decide) (fun hb => (Pm9 rfl rfl)) (WL_guardP2 rfl rfl rfl rfl (by decide) (fun hb => (Pn9 rfl (ev_gv rfl hb) rfl (run_leq _ _ _ _ _ _))) (Lg9 rfl rfl rfl rfl (by decide) (fun hb => (Pu_and2 hb rfl (ev_gv rfl hb) rfl)) (L9 rfl (Pu_or rfl rfl rfl) (M9 rfl rfl (Lg9 rfl rfl rfl rfl (by decide) (fun hb => (Pm9 rfl rfl)) (Lg9 rfl rfl rfl rfl (by decide) (fun hb => (Pn9 rfl (ev_gv rfl hb) rfl (run_eql _ _ _ _ _ _))) (Lg9 rfl rfl rfl rfl (by decide) (fun hb => (Pm9 rfl (ev_gv rfl hb))) (WL_guardP2 rfl rfl rfl rfl (by decide) (fun hb => (Pm9 rfl rfl)) (WL_guardP2 rfl rfl rfl rfl (by decide) (fun hb => (Pn9 rfl (ev_gv rfl hb) rfl (run_lss _ _ _ _ _ _))) (Lg9 rfl rfl rfl rfl (by decide) (fun hb => (Pu_and2 hb rfl (ev_gv rfl hb) rfl)) (L9 rfl (Pu_or rfl rfl rfl) (M9 rfl rfl (Lg9 rfl rfl rfl rfl (by decide) (fun hb => (Pm9 rfl rfl)) (Lg9 rfl rfl rfl rfl (by decide) (fun hb => (Pn9 rfl (ev_gv rfl hb) rfl (run_eql _ _ _ _ _ _))) (Lg9 rfl rfl rfl rfl (by decide) (fun hb => (Pm9 rfl (ev_gv rfl hb))) (WL_guardP2 rfl rfl rfl rfl (by decide) (fun hb => (Pm9 rfl rfl)) (WL_guardP2 rfl rfl rfl rfl (by decide) (fun hb => (Pn9 rfl (ev_gv rfl hb) rfl (run_lss _ _ _ _ _ _))) (Lg9 rfl rfl rfl rfl (by decide) (fun hb => (Pu_and2 hb rfl (ev_gv rfl hb) rfl)) (L9 rfl (Pu_or rfl rfl rfl) (M9 rfl rfl (Lg9 rfl rfl rfl rfl (by decide) (fun hb => (Pm9 rfl rfl)) (Lg9 rfl rfl rfl rfl (by decide) (fun hb => (Pn9 rfl (ev_gv rfl hb) rfl (run_eql _ _ _ _ _ _))) (Lg9 rfl rfl rfl rfl (by decide) (fun hb => (Pm9 rfl (ev_gv rfl hb))) (WL_guardP2 rfl rfl rfl rfl (by decide) (fun hb => (Pm9 rfl rfl)) (WL_guardP2 rfl rfl rfl rfl (by decide) (fun hb => (Pn9 rfl (ev_gv rfl hb) rfl (run_lss _ _ _ _ _ _))) (Lg9 rfl rfl rfl rfl (by decide) (fun hb => (Pu_and2 hb rfl (ev_gv rfl hb) rfl)) (L9 rfl (Pu_or rfl rfl rfl) (N9 (X9 ?_))))))))))))))))))))))))))))))))))))))
       refine C9 rfl (fun hc113 => ?_) (fun hc113 => ?_)
       ·
        simp only [Bool.or_eq_true,Bool.and_eq_true,decide_eq_true_eq,true_and] at hc113
        refine Q9 (R9 (G9 rfl rfl (G9 rfl rfl (N9 (X9 ?_)))))
        refine W_ret (X_then_ret ?_)
        have hs : oneR (l.drop i) = (0,0):=(oneM_eq _ hne).symm.trans ((oneM_some (by rw [hg0]; exact h128) hld (by rw [List.length_drop]; omega) (by rw [← hrs]; exact restF_end hge _)).trans (by unfold finO; rw [if_pos (by omega)]))
        exact Xq9 [] (Ps:=[]) (res2 Tryz.results78 rfl rfl) rfl (by decide) ⟨by rw [hs] <;> rfl,rfl⟩
       ·
        simp only [Bool.or_eq_false_iff,Bool.and_eq_false_iff,decide_eq_false_iff_not,not_true_eq_false,false_or] at hc113
        refine K9 (X9 ?_)
        refine Q9 (R9 (M9 rfl rfl (M9 rfl rfl (G9 rfl rfl (G9 rfl rfl (N9 (X9 ?_)))))))
        refine W_ret ?_
        have hs : oneR (l.drop i) = (x.2,4):=(oneM_eq _ hne).symm.trans ((oneM_some (by rw [hg0]; exact h128) hld (by rw [List.length_drop]; omega) (by rw [← hrs]; exact restF_end hge _)).trans (by unfold finO; rw [if_neg (by omega)]))
        exact Xq9 [] (Ps:=[]) (res2 Tryz.results78 rfl rfl) rfl (by decide) ⟨by rw [hs] <;> rfl,rfl⟩
    ·
     simp only [Bool.and_eq_false_iff,decide_eq_false_iff_not] at hc38
     refine K9 (X_block (X9 ?_))
     refine Q9 (Q9 ?_)
     have hld : lead ((l.drop i).getD 0 0).toNat = (0,0):=by rw [hg0]; unfold lead; rw [if_neg (by omega),if_neg (by omega),if_neg (by omega)]
     refine R9 (M9 rfl rfl (L9 rfl (Pn9 rfl rfl rfl (run_eql _ _ _ _ _ _)) (M9 rfl rfl (Lg9 rfl rfl rfl rfl (by decide) (fun hb => (Pm9 rfl rfl)) (Lg9 rfl rfl rfl rfl (by decide) (fun hb => (Pm9 rfl rfl)) (Lg9 rfl rfl rfl rfl (by decide) (fun hb => (Pn9 rfl (ev_gv rfl hb) (ev_gv rfl hb) (run_add _ _ _ _ _ (by omega)))) (Lg9 rfl rfl rfl rfl (by decide) (fun hb => (Pm9 rfl rfl)) (Lg9 rfl rfl rfl rfl (by decide) (fun hb => (Pu_lenStr rfl Tryz.underlying9 (ev_gv rfl hb))) (Lg9 rfl rfl rfl rfl (by decide) (fun hb => (Pn9 rfl (ev_gv rfl hb) (ev_gv rfl hb) (run_gtr _ _ _ _ _ _))) (L9 rfl (Pu_or rfl rfl rfl) (N9 (X9 ?_))))))))))))
     refine W_true rfl (rfl) ?_
     refine Q9 (R9 (G9 rfl rfl (G9 rfl rfl (N9 (X9 ?_)))))
     refine W_ret (X_then_ret ?_)
     have hs : oneR (l.drop i) = (0,0):=(oneM_eq _ hne).symm.trans (oneM_short (by rw [hg0]; exact h128) hld (.inl rfl))
     exact Xq9 [] (Ps:=[]) (res2 Tryz.results78 rfl rfl) rfl (by decide) ⟨by rw [hs] <;> rfl,rfl⟩
theorem check_rspec (l : List UInt8) (hl : l.length ≤ 140737488355328) (F : HP) : CallsS Tryz.prog 50 #[sV l] F [] (fun v Ps => v = .int .i64 (checkN l : Int) ∧ Ps = []):=by
 refine callsS_enter Tryz.func50 rfl Tryz.ntmps50 (by simp) (fun E => ?_)
 refine Q9 (R9 (G9 rfl rfl (N9 (X9 (Q9 (R9 (G9 rfl rfl (N9 (X9 (Q9 (R9 (M9 rfl rfl (L9 rfl (Pn9 rfl rfl rfl (run_strEq _ _ _ _ _)) (M9 rfl rfl (Lg9 rfl rfl rfl rfl (by decide) (fun hb => (Pm9 rfl rfl)) (Lg9 rfl rfl rfl rfl (by decide) (fun hb => (Pn9 rfl (ev_gv rfl hb) rfl (run_strEq _ _ _ _ _))) (L9 rfl (Pu_or rfl rfl rfl) (M9 rfl rfl (Lg9 rfl rfl rfl rfl (by decide) (fun hb => (Pm9 rfl rfl)) (Lg9 rfl rfl rfl rfl (by decide) (fun hb => (Pn9 rfl (ev_gv rfl hb) rfl (run_strEq _ _ _ _ _))) (L9 rfl (Pu_or rfl rfl rfl) (G9 rfl rfl (N9 (X9 (Q9 (R9 (G9 rfl rfl (N9 (X9 (Q9 ?_))))))))))))))))))))))))))))))
 refine W_block ?_
 refine W_loop (α:=Nat × Nat × Bool) (fun x => [(0,sV l),(3,.int .i64 (x.2.1 : Int)),(4,.bool x.2.2),(5,.int .i64 (x.1 : Int))]) (fun x => [(0,F)]) (fun x => chk (l.drop x.1) x.2.1 x.2.2 = checkN l ∧ x.2.1 ≤ x.1 ∧ x.1 ≤ l.length) (fun x => l.length - x.1) ((0,0,bad0 l)) ⟨rfl,Nat.le_refl _,Nat.zero_le _⟩ (a9 rfl) ⟨rfl,trivial⟩ (fun x hx => ?_)
 obtain ⟨hchk,hnp,hpl⟩:=hx
 refine Q9 (Q9 (R9 (M9 rfl rfl (M9 rfl rfl (L9 rfl (Pu_lenStr rfl Tryz.underlying9 rfl) (L9 rfl (Pn9 rfl rfl rfl (run_lss _ _ _ _ _ _)) (N9 (X9 ?_))))))))
 refine C9 rfl (fun hc21 => ?_) (fun hc21 => ?_)
 ·
  have hlt : x.1 < l.length:=by have:=of_decide_eq_true hc21; omega
  have hne : l.drop x.1 ≠ []:=by intro hc; have:=congrArg List.length hc; simp at this; omega
  have hw:=decodeL_width (l.drop x.1)
  have hle:=decodeL_le (l.drop x.1) hne
  rw [List.length_drop] at hle
  refine K9 (X9 ?_)
  refine W_block ?_
  refine Q9 (R9 (M9 rfl rfl (M9 rfl rfl (Lc9 rfl rfl (by decide) (Oc9 200 [0] [] rfl Tryz.call78 rfl rfl rfl (by decide) (by decide) (one_rspec l x.1 hlt hl _) (fun v25 Ps25 hR25 => ?_))))))
  obtain ⟨rfl,rfl⟩:=hR25
  refine (M9 rfl rfl (L9 rfl (Pe9 rfl rfl rfl) (L9 rfl (Pe9 rfl rfl rfl) (G9 rfl rfl (G9 rfl rfl (N9 (X9 ?_)))))))
  refine Q9 (Q9 (R9 (M9 rfl rfl (L9 rfl (Pn9 rfl rfl rfl (run_eql _ _ _ _ _ _)) (N9 (X9 ?_))))))
  refine C9 rfl (fun hc29 => ?_) (fun hc29 => ?_)
  ·
   have hno : noRune (l.drop x.1) = true:=oneR_zero hc29
   refine Q9 (R9 (G9 rfl rfl (N9 (X9 ?_))))
   refine W_ret (X_then_ret (X_block_ret (X_then_ret (X_block_ret (X_then_ret ?_)))))
   exact Xq9 [] (Ps:=[]) (res1 Tryz.results50 rfl) rfl (by decide) ⟨by rw [← hchk,chk_none hne hno] <;> rfl,rfl⟩
  ·
   have hno : noRune (l.drop x.1) = false:=oneR_pos hc29
   rw [show oneR (l.drop x.1) = decodeL (l.drop x.1) from by unfold oneR; rw [hno]; rfl]
   refine K9 (X9 ?_)
   refine Q9 (R9 (M9 rfl rfl (M9 rfl rfl (Lg9 rfl rfl rfl rfl (by decide) (fun hb => (Pm9 rfl rfl)) (Lg9 rfl rfl rfl rfl (by decide) (fun hb => (Pn9 rfl (ev_gv rfl hb) rfl (run_eql _ _ _ _ _ _))) (L9 rfl (Pu_or rfl rfl rfl) (M9 rfl rfl (Lg9 rfl rfl rfl rfl (by decide) (fun hb => (Pm9 rfl rfl)) (Lg9 rfl rfl rfl rfl (by decide) (fun hb => (Pn9 rfl (ev_gv rfl hb) rfl (run_lss _ _ _ _ _ _))) (L9 rfl (Pu_or rfl rfl rfl) (M9 rfl rfl (Lg9 rfl rfl rfl rfl (by decide) (fun hb => (Pm9 rfl rfl)) (Lg9 rfl rfl rfl rfl (by decide) (fun hb => (Pn9 rfl (ev_gv rfl hb) rfl (run_eql _ _ _ _ _ _))) (L9 rfl (Pu_or rfl rfl rfl) (G9 rfl rfl (N9 (X9 (Q9 (R9 (M9 rfl rfl (L9 rfl (Pn9 rfl rfl rfl (run_add _ _ _ _ _ (by omega))) (G9 rfl rfl (N9 (X9 (R9 (M9 rfl rfl (M9 rfl rfl (L9 rfl (Pn9 rfl rfl rfl (run_add _ _ _ _ _ (by omega))) (G9 rfl rfl (N9 (X_block ?_)))))))))))))))))))))))))))))))
   exact Xr9 (x.1 + (decodeL (l.drop x.1)).2,x.2.1 + 1,(x.2.2 || wrongR (decodeL (l.drop x.1)).1)) ⟨by rw [← hchk,chk_some hne hno,List.drop_drop],by show x.2.1 + 1 ≤ x.1 + _; omega,by show x.1 + _ ≤ l.length; omega⟩ (by show l.length - (x.1 + _) < l.length - x.1; omega) ⟨rfl,rfl,congrArg some (bool_val (wrongR_ref _ _)),rfl,trivial⟩ ⟨rfl,trivial⟩
 ·
  have hge : l.length ≤ x.1:=by have:=of_decide_eq_false hc21; omega
  have hend : l.drop x.1 = []:=List.drop_of_length_le hge
  rw [hend,chk_nil] at hchk
  refine W_exit (X_then_exit (X_then_exit (X_block_exit (X9 ?_))))
  refine Q9 (Q9 (R9 (M9 rfl rfl (N9 (X9 ?_)))))
  refine C9 rfl (fun hc48 => ?_) (fun hc48 => ?_)
  ·
   have hb:=hc48
   refine Q9 (R9 (G9 rfl rfl (N9 (X9 ?_))))
   refine W_ret (X_then_ret ?_)
   exact Xq9 [] (Ps:=[]) (res1 Tryz.results50 rfl) rfl (by decide) ⟨by rw [← hchk,finC,hb] <;> rfl,rfl⟩
  ·
   have hb:=hc48
   refine K9 (X9 ?_)
   refine Q9 (Q9 (R9 (M9 rfl rfl (L9 rfl (Pn9 rfl rfl rfl (run_gtr _ _ _ _ _ _)) (N9 (X9 ?_))))))
   refine C9 rfl (fun hc50 => ?_) (fun hc50 => ?_)
   ·
    have hb2:=of_decide_eq_true hc50
    refine Q9 (R9 (G9 rfl rfl (N9 (X9 ?_))))
    refine W_ret (X_then_ret ?_)
    exact Xq9 [] (Ps:=[]) (res1 Tryz.results50 rfl) rfl (by decide) ⟨by rw [← hchk,finC,hb,if_neg (by decide),if_pos (by omega)] <;> rfl,rfl⟩
   ·
    have hb2:=of_decide_eq_false hc50
    refine K9 (X9 ?_)
    refine Q9 (R9 (G9 rfl rfl (N9 (X9 ?_))))
    refine W_ret ?_
    exact Xq9 [] (Ps:=[]) (res1 Tryz.results50 rfl) rfl (by decide) ⟨by rw [← hchk,finC,hb,if_neg (by decide),if_neg (by omega)] <;> rfl,rfl⟩
end Go.Proofs.YthkdkmaacjpneaaGreatDoor
namespace Go.Proofs.YthkdkmaacjpneaaGreatDoor
open Go.RowKit Go.Lib
set_option maxRecDepth 8000

theorem beq_false_of {b : Bool} (h : (b == false) = true) : b = false:=by simpa using h
theorem beq_true_of {b : Bool} (h : (b == true) = true) : b = true:=by simpa using h
theorem run_geqStr {P : Program} (a b : List UInt8) (t : TypeId) (x y : Operand) (w : World) : ((do eqGuard .geq t x y (sV a) (sV b); binOp .geq t (sV a) (sV b) : Sem Value)).run P w = .ok (.bool (!Op.bytesLess a b)) w:=by
  simp [eqGuard,binOp,Op.stringOp,strB_toList]
theorem run_leqStr {P : Program} (a b : List UInt8) (t : TypeId) (x y : Operand) (w : World) : ((do eqGuard .leq t x y (sV a) (sV b); binOp .leq t (sV a) (sV b) : Sem Value)).run P w = .ok (.bool (Op.bytesLess a b || a == b)) w:=by
  simp [eqGuard,binOp,Op.stringOp,strB_toList]
theorem ent_nameZ {es : List Ent} (h : Ents es) {k : Nat} (hk : k < es.length) {i : Int} (hi : i = (k : Int)) : (recC entF es)[i.toNat * 33 + 0]? = some (sV (es.getD k ent0).1):=by
  subst hi
  exact ent_name h hk
theorem bad_spec (v : Value) (es : List Ent) (hE : Ents es) (hl : es.length ≤ 140737488355328) (hn : ∀ e ∈ es,e.1.length ≤ 140737488355328) (F : HP) (hF : ∀ h,F h → rdE v es h) (hT : ∀ h,F h → tabsP h) : CallsS Tryz.prog 98 #[v] F [] (fun r Ps => r = .int .i64 (dirE es : Int) ∧ Ps = []):=by
 refine callsS_enter Tryz.func98 rfl Tryz.ntmps98 (by simp) (fun E => ?_)
 refine Q9 (R9 (G9 rfl rfl (N9 (X9 (Q9 (Q9 (R9 (M9 rfl rfl (L9 rfl (Pl9 (r:=0) rfl Tryz.runUnderlying118 rfl rfl hF) (M9 rfl rfl (N9 (X9 ?_))))))))))))
 refine W_block ?_
 refine W_loop (α:=Nat) (fun i => [(0,v),(7,v),(8,.int .i64 (es.length : Int)),(9,.int .i64 (i : Int))]) (fun i => [(0,F)]) (fun i => i ≤ es.length ∧ firstBad ((nms es).drop i) = firstBad (nms es)) (fun i => es.length - i) (0) ⟨Nat.zero_le _,rfl⟩ (a9 rfl) ⟨rfl,trivial⟩ (fun x hx => ?_)
 obtain ⟨hxl,hfb⟩:=hx
 refine Q9 (R9 (L9 rfl (Pn9 rfl rfl rfl (run_lss _ _ _ _ _ _)) (N9 (X9 (Q9 ?_)))))
 refine C9 rfl (fun hc10 => ?_) (fun hc10 => ?_)
 ·
  have hlt : x < es.length:=by have:=of_decide_eq_true hc10; omega
  refine K9 (X9 ?_)
  refine Q9 ?_
  refine W_block ?_
  refine Q9 (R9 (L9 rfl (Pi9 (r:=0) rfl Tryz.runUnderlying118 Tryz.sizeOf122 rfl rfl rfl hF (by omega)) (L9 rfl (Pz9 (r:=0) rfl Tryz.isAgg122 Tryz.sizeOf122 rfl rfl hF (entC_length (hE.get hlt)) (by decide) (ent_all hE hlt)) (Lc9 rfl rfl (by decide) (OpT_alloc (r:=101) rfl (zero_run (by kernel_rfl : (Tryz.prog.info? 122).bind (·.zero) = some (.agg (entC [] zeroId).toArray))) rfl (fun g101 => (Lc09 rfl rfl (OpT_storeAll (r:=101) rfl Tryz.sizeOf122 rfl rfl rfl rfl (entC_length (hE.get hlt)) (entC_one _ _) ?_))))))))
  refine (N9 (X9 ?_))
  refine Q9 (R9 (L9 rfl (F9 0 rfl rfl) (L9 rfl (Pb9 (r:=101) rfl Tryz.isAgg9 rfl rfl rfl) (Lc9 rfl rfl (by decide) (Oc9 200 [0,101] [] rfl Tryz.call90 rfl rfl rfl (by decide) (by decide) (check_spec (es.getD x ent0).1 (hn _ (getD_mem' hlt)) _ (ts9 0 rfl hT)) (fun v15 Ps15 hR15 => ?_))))))
  obtain ⟨rfl,rfl⟩:=hR15
  refine (G9 rfl rfl (N9 (X9 ?_)))
  refine Q9 (R9 (M9 rfl rfl (L9 rfl (Pn9 rfl rfl rfl (run_neq _ _ _ _ _ _)) (N9 (X9 ?_)))))
  refine C9 rfl (fun hc17 => ?_) (fun hc17 => ?_)
  ·
   have hne : ¬ (checkN (es.getD x ent0).1 : Int) = 0:=by simpa using hc17
   have hbad : firstBad (nms es) = checkN (es.getD x ent0).1:=by rw [← hfb,firstBad_bad (by rw [nms_length]; exact hlt) (by rw [nms_at hlt]; exact hne),nms_at hlt]
   refine Q9 (R9 (M9 rfl rfl (G9 rfl rfl (N9 (X9 ?_)))))
   refine W_ret (X_block_ret (X_then_ret (X_then_ret (X_block_ret (X_then_ret ?_)))))
   exact Xq9 [] (Ps:=[]) (res1 Tryz.results98 rfl) rfl (by decide) ⟨by rw [dirE_bad (by rw [hbad]; omega),hbad],rfl⟩
  ·
   have hgood : firstBad ((nms es).drop x) = firstBad ((nms es).drop (x + 1)):=firstBad_good (by rw [nms_length]; exact hlt) (by rw [nms_at hlt]; simpa using hc17)
   refine K9 (X_block (X9 ?_))
   refine R9 (L9 rfl (Pn9 rfl rfl rfl (run_add _ _ _ _ _ (by omega))) (M9 rfl rfl (N9 ?_)))
   exact Xr9 (x + 1) ⟨hlt,by rw [← hfb,hgood]⟩ (by omega) (a9 rfl) ⟨rfl,trivial⟩
 ·
  have hge : es.length ≤ x:=by have:=of_decide_eq_false hc10; omega
  have hfb0 : firstBad (nms es) = 0:=by rw [← hfb]; exact firstBad_end (by rw [nms_length]; exact hge)
  refine W_exit (X_then_exit (X_then_exit (X_block_exit (X9 ?_))))
  refine Q9 (Q9 (R9 (M9 rfl rfl (L9 rfl (Pl9 (r:=0) rfl Tryz.runUnderlying118 rfl rfl hF) (M9 rfl rfl (N9 (X9 ?_)))))))
  refine W_block ?_
  refine W_loop (α:=Nat) (fun i => [(0,v),(21,.int .i64 (es.length : Int)),(22,.int .i64 (i : Int))]) (fun i => [(0,F)]) (fun i => i ≤ es.length + 1 ∧ riseP (nms es) i) (fun i => es.length + 1 - i) (0) ⟨by omega,fun j hj h1 => by omega⟩ (a9 rfl) ⟨rfl,trivial⟩ (fun k hk => ?_)
  obtain ⟨hkl,hri⟩:=hk
  refine Q9 (R9 (L9 rfl (Pn9 rfl rfl rfl (run_lss _ _ _ _ _ _)) (N9 (X9 (Q9 ?_)))))
  refine C9 rfl (fun hc23 => ?_) (fun hc23 => ?_)
  ·
   have hlt2 : k < es.length:=by have:=of_decide_eq_true hc23; omega
   refine K9 (X9 ?_)
   refine Q9 ?_
   refine W_block ?_
   refine Q9 (R9 (M9 rfl rfl (G9 rfl rfl (N9 (X9 (Q9 ?_))))))
   refine W_draw (N:=16) (by kernel_rfl) rfl [(0,_)] ⟨rfl,trivial⟩ ?_
   refine (T9 0 rfl rfl (Pm9 rfl rfl) (T9 1 rfl rfl (Pn9 rfl rfl rfl (run_gtr _ _ _ _ _ _)) (T9 2 rfl rfl (Pm9 rfl rfl) (AH_takeG 3 rfl (by kernel_rfl) (by kernel_rfl) (by kernel_rfl) rfl rfl rfl rfl (by decide) (fun hb => (Pm9 rfl rfl)) (AH_takeG 4 rfl (by kernel_rfl) (by kernel_rfl) (by kernel_rfl) rfl rfl rfl rfl (by decide) (fun hb => (Pm9 rfl rfl)) (AH_takeG 5 rfl (by kernel_rfl) (by kernel_rfl) (by kernel_rfl) rfl rfl rfl rfl (by decide) (fun hb => (Pn9 rfl (ev_gv rfl hb) rfl (run_sub _ _ _ _ _ (by have:=of_decide_eq_true (beq_true_of hb); omega)))) (AH_takeG 6 rfl (by kernel_rfl) (by kernel_rfl) (by kernel_rfl) rfl rfl rfl rfl (by decide) (fun hb => (Pi9 (r:=0) rfl Tryz.runUnderlying118 Tryz.sizeOf122 (ev_gv rfl hb) (ev_gv rfl hb) rfl hF (by have:=of_decide_eq_true (beq_true_of hb); omega))) (AH_takeG 7 rfl (by kernel_rfl) (by kernel_rfl) (by kernel_rfl) rfl rfl rfl rfl (by decide) (fun hb => (Pu_fieldAddrE (off:=0) rfl (ev_gv rfl hb) (by kernel_rfl))) (AH_takeG 8 rfl (by kernel_rfl) (by kernel_rfl) (by kernel_rfl) rfl rfl rfl rfl (by decide) (fun hb => (Py9 (r:=0) rfl Tryz.isAgg9 (ev_gv rfl hb) rfl hF (by have h0:=of_decide_eq_true (beq_true_of hb); exact ent_nameZ hE (k:=k - 1) (by omega) (by omega)))) (AH_takeG 9 rfl (by kernel_rfl) (by kernel_rfl) (by kernel_rfl) rfl rfl rfl rfl (by decide) (fun hb => (Pm9 rfl rfl)) (AH_takeG 10 rfl (by kernel_rfl) (by kernel_rfl) (by kernel_rfl) rfl rfl rfl rfl (by decide) (fun hb => (Pm9 rfl rfl)) (AH_takeG 11 rfl (by kernel_rfl) (by kernel_rfl) (by kernel_rfl) rfl rfl rfl rfl (by decide) (fun hb => (Pi9 (r:=0) rfl Tryz.runUnderlying118 Tryz.sizeOf122 (ev_gv rfl hb) (ev_gv rfl hb) rfl hF (by omega))) (AH_takeG 12 rfl (by kernel_rfl) (by kernel_rfl) (by kernel_rfl) rfl rfl rfl rfl (by decide) (fun hb => (Pu_fieldAddrE (off:=0) rfl (ev_gv rfl hb) (by kernel_rfl))) (AH_takeG 13 rfl (by kernel_rfl) (by kernel_rfl) (by kernel_rfl) rfl rfl rfl rfl (by decide) (fun hb => (Py9 (r:=0) rfl Tryz.isAgg9 (ev_gv rfl hb) rfl hF (ent_nameZ hE (k:=k) hlt2 rfl))) (AH_takeG 14 rfl (by kernel_rfl) (by kernel_rfl) (by kernel_rfl) rfl rfl rfl rfl (by decide) (fun hb => (Pn9 rfl (ev_gv rfl hb) (ev_gv rfl hb) (run_geqStr (es.getD (k - 1) ent0).1 (es.getD k ent0).1 _ _ _))) (T9 15 rfl rfl (Pu_and rfl rfl rfl) (Ad9 (by kernel_rfl) (X9 ?_))))))))))))))))))
   refine C9 rfl (fun hc40 => ?_) (fun hc40 => ?_)
   ·
    simp only [Bool.and_eq_true,decide_eq_true_eq] at hc40
    have hk1 : 1 ≤ k:=by omega
    have hfall : ¬ riseP (nms es) es.length:=riseP_not hk1 hlt2 (by rw [nms_at (by omega),nms_at hlt2]; simpa using hc40.2)
    refine Q9 (R9 (G9 rfl rfl (N9 (X9 ?_))))
    refine W_ret (X_block_ret (X_then_ret (X_then_ret (X_block_ret (X_then_ret ?_)))))
    exact Xq9 [] (Ps:=[]) (res1 Tryz.results98 rfl) rfl (by decide) ⟨by rw [dirE_fall hfb0 hfall] <;> rfl,rfl⟩
   ·
    simp only [Bool.and_eq_false_iff,decide_eq_false_iff_not] at hc40
    have hup : 1 ≤ k → Op.bytesLess ((nms es).getD (k - 1) []) ((nms es).getD k []) = true:=fun hk1 => by rw [nms_at (by omega),nms_at hlt2]; simpa using hc40.resolve_left (by omega)
    refine K9 (X_block (X9 ?_))
    refine R9 (L9 rfl (Pn9 rfl rfl rfl (run_add _ _ _ _ _ (by omega))) (M9 rfl rfl (N9 ?_)))
    exact Xr9 (k + 1) ⟨by omega,riseP_succ hri hup⟩ (by omega) (a9 rfl) ⟨rfl,trivial⟩
  ·
   have hge2 : es.length ≤ k:=by have:=of_decide_eq_false hc23; omega
   have hris : riseP (nms es) es.length:=fun j hj h1 => hri j (by omega) h1
   refine W_exit (X_then_exit (X_then_exit (X_block_exit (X9 ?_))))
   refine Q9 (Q9 (R9 (M9 rfl rfl (L9 rfl (Pl9 (r:=0) rfl Tryz.runUnderlying118 rfl rfl hF) (L9 rfl (Pn9 rfl rfl rfl (run_gtr _ _ _ _ _ _)) (N9 (X9 ?_)))))))
   refine C9 rfl (fun hc44 => ?_) (fun hc44 => ?_)
   ·
    have h20 : 20 < es.length:=by have:=of_decide_eq_true hc44; omega
    refine Q9 (R9 (G9 rfl rfl (N9 (X9 ?_))))
    refine W_ret (X_then_ret ?_)
    exact Xq9 [] (Ps:=[]) (res1 Tryz.results98 rfl) rfl (by decide) ⟨by rw [dirE_many hfb0 hris h20] <;> rfl,rfl⟩
   ·
    have h20 : ¬ 20 < es.length:=by have:=of_decide_eq_false hc44; omega
    refine K9 (X9 ?_)
    refine Q9 (R9 (G9 rfl rfl (N9 (X9 ?_))))
    refine W_ret ?_
    exact Xq9 [] (Ps:=[]) (res1 Tryz.results98 rfl) rfl (by decide) ⟨by rw [dirE_ok hfb0 hris h20] <;> rfl,rfl⟩
theorem wrongDir_spec (v : Value) (es : List Ent) (hE : Ents es) (hl : es.length ≤ 140737488355328) (hn : ∀ e ∈ es,e.1.length ≤ 140737488355328) (F : HP) (hF : ∀ h,F h → rdE v es h) : CallsS Tryz.prog 114 #[v] F [] (fun r Ps => r = .int .i64 (dirE es : Int) ∧ Ps = []):=by
 refine callsS_enter Tryz.func114 rfl Tryz.ntmps114 (by simp) (fun E => ?_)
 refine Q9 (R9 (G9 rfl rfl (N9 (X9 (Q9 (Q9 (R9 (G9 rfl rfl (N9 (X9 ?_))))))))))
 refine W_block ?_
 refine W_loop (α:=Nat) (fun i => [(0,v),(3,.int .i64 (i : Int))]) (fun i => [(0,F)]) (fun i => i ≤ es.length ∧ firstBad ((nms es).drop i) = firstBad (nms es)) (fun i => es.length - i) (0) ⟨Nat.zero_le _,rfl⟩ (a9 rfl) ⟨rfl,trivial⟩ (fun x hx => ?_)
 obtain ⟨hxl,hfb⟩:=hx
 refine Q9 (Q9 (R9 (M9 rfl rfl (M9 rfl rfl (L9 rfl (Pl9 (r:=0) rfl Tryz.runUnderlying118 rfl rfl hF) (L9 rfl (Pn9 rfl rfl rfl (run_lss _ _ _ _ _ _)) (N9 (X9 ?_))))))))
 refine C9 rfl (fun hc8 => ?_) (fun hc8 => ?_)
 ·
  have hlt : x < es.length:=by have:=of_decide_eq_true hc8; omega
  refine K9 (X9 ?_)
  refine Q9 ?_
  refine W_block ?_
  refine Q9 (R9 (M9 rfl rfl (M9 rfl rfl (L9 rfl (Pi9 (r:=0) rfl Tryz.runUnderlying118 Tryz.sizeOf122 rfl rfl rfl hF (by omega)) (L9 rfl (Pu_fieldAddrE (off:=0) rfl rfl (by kernel_rfl)) (L9 rfl (Py9 (r:=0) rfl Tryz.isAgg9 rfl rfl hF (ent_name hE hlt)) (Lc9 rfl rfl (by decide) (Oc9 200 [0] [] rfl Tryz.call50 rfl rfl rfl (by decide) (by decide) (check_rspec (es.getD x ent0).1 (hn _ (getD_mem' hlt)) _) (fun v16 Ps16 hR16 => ?_)))))))))
  obtain ⟨rfl,rfl⟩:=hR16
  refine (L9 rfl (Pn9 rfl rfl rfl (run_neq _ _ _ _ _ _)) (N9 (X9 ?_)))
  refine C9 rfl (fun hc17 => ?_) (fun hc17 => ?_)
  ·
   have hne : ¬ (checkN (es.getD x ent0).1 : Int) = 0:=by simpa using hc17
   have hbad : firstBad (nms es) = checkN (es.getD x ent0).1:=by rw [← hfb,firstBad_bad (by rw [nms_length]; exact hlt) (by rw [nms_at hlt]; exact hne),nms_at hlt]
   refine Q9 (R9 (M9 rfl rfl (M9 rfl rfl (L9 rfl (Pi9 (r:=0) rfl Tryz.runUnderlying118 Tryz.sizeOf122 rfl rfl rfl hF (by omega)) (L9 rfl (Pu_fieldAddrE (off:=0) rfl rfl (by kernel_rfl)) (L9 rfl (Py9 (r:=0) rfl Tryz.isAgg9 rfl rfl hF (ent_name hE hlt)) (Lc9 rfl rfl (by decide) (Oc9 300 [0] [] rfl Tryz.call50 rfl rfl rfl (by decide) (by decide) (check_rspec (es.getD x ent0).1 (hn _ (getD_mem' hlt)) _) (fun v23 Ps23 hR23 => ?_)))))))))
   obtain ⟨rfl,rfl⟩:=hR23
   refine (G9 rfl rfl (N9 (X9 ?_)))
   refine W_ret (X_block_ret (X_then_ret (X_then_ret (X_block_ret (X_then_ret ?_)))))
   exact Xq9 [] (Ps:=[]) (res1 Tryz.results114 rfl) rfl (by decide) ⟨by rw [dirE_bad (by rw [hbad]; omega),hbad],rfl⟩
  ·
   have hgood : firstBad ((nms es).drop x) = firstBad ((nms es).drop (x + 1)):=firstBad_good (by rw [nms_length]; exact hlt) (by rw [nms_at hlt]; simpa using hc17)
   refine K9 (X_block (X9 ?_))
   refine R9 (M9 rfl rfl (L9 rfl (Pn9 rfl rfl rfl (run_add _ _ _ _ _ (by omega))) (G9 rfl rfl (N9 ?_))))
   exact Xr9 (x + 1) ⟨hlt,by rw [← hfb,hgood]⟩ (by omega) (a9 rfl) ⟨rfl,trivial⟩
 ·
  have hge : es.length ≤ x:=by have:=of_decide_eq_false hc8; omega
  have hfb0 : firstBad (nms es) = 0:=by rw [← hfb]; exact firstBad_end (by rw [nms_length]; exact hge)
  refine W_exit (X_then_exit (X_then_exit (X_block_exit (X9 ?_))))
  refine Q9 (Q9 (R9 (G9 rfl rfl (N9 (X9 ?_)))))
  refine W_block ?_
  refine W_loop (α:=Nat) (fun i => [(0,v),(4,.int .i64 (i : Int))]) (fun i => [(0,F)]) (fun i => i ≤ es.length + 1 ∧ 1 ≤ i ∧ riseP (nms es) i) (fun i => es.length + 1 - i) (1) ⟨by omega,Nat.le_refl _,fun j hj h1 => by omega⟩ (a9 rfl) ⟨rfl,trivial⟩ (fun k hk => ?_)
  obtain ⟨hkl,hk1,hri⟩:=hk
  refine Q9 (Q9 (R9 (M9 rfl rfl (M9 rfl rfl (L9 rfl (Pl9 (r:=0) rfl Tryz.runUnderlying118 rfl rfl hF) (L9 rfl (Pn9 rfl rfl rfl (run_lss _ _ _ _ _ _)) (N9 (X9 ?_))))))))
  refine C9 rfl (fun hc27 => ?_) (fun hc27 => ?_)
  ·
   have hlt2 : k < es.length:=by have:=of_decide_eq_true hc27; omega
   refine K9 (X9 ?_)
   refine Q9 ?_
   refine W_block ?_
   refine Q9 ?_
   refine W_draw (N:=12) (by kernel_rfl) rfl [(0,_)] ⟨rfl,trivial⟩ ?_
   refine (T9 0 rfl rfl (Pm9 rfl rfl) (T9 1 rfl rfl (Pm9 rfl rfl) (T9 2 rfl rfl (Pi9 (r:=0) rfl Tryz.runUnderlying118 Tryz.sizeOf122 rfl rfl rfl hF (by omega)) (T9 3 rfl rfl (Pu_fieldAddrE (off:=0) rfl rfl (by kernel_rfl)) (T9 4 rfl rfl (Py9 (r:=0) rfl Tryz.isAgg9 rfl rfl hF (ent_nameZ hE (k:=k) hlt2 rfl)) (T9 5 rfl rfl (Pm9 rfl rfl) (T9 6 rfl rfl (Pm9 rfl rfl) (T9 7 rfl rfl (Pn9 rfl rfl rfl (run_sub _ _ _ _ _ (by omega))) (T9 8 rfl rfl (Pi9 (r:=0) rfl Tryz.runUnderlying118 Tryz.sizeOf122 rfl rfl rfl hF (by omega)) (T9 9 rfl rfl (Pu_fieldAddrE (off:=0) rfl rfl (by kernel_rfl)) (T9 10 rfl rfl (Py9 (r:=0) rfl Tryz.isAgg9 rfl rfl hF (ent_nameZ hE (k:=k - 1) (by omega) (by omega))) (T9 11 rfl rfl (Pn9 rfl rfl rfl (run_leqStr (es.getD k ent0).1 (es.getD (k - 1) ent0).1 _ _ _)) (Ad9 (by kernel_rfl) (X9 ?_))))))))))))))
   refine C9 rfl (fun hc41 => ?_) (fun hc41 => ?_)
   ·
    have htri:=less_tri (es.getD (k - 1) ent0).1 (es.getD k ent0).1
    have hfall : ¬ riseP (nms es) es.length:=riseP_not hk1 hlt2 (by rw [nms_at (by omega),nms_at hlt2]; rw [hc41] at htri; simpa using htri)
    refine Q9 (R9 (G9 rfl rfl (N9 (X9 ?_))))
    refine W_ret (X_block_ret (X_then_ret (X_then_ret (X_block_ret (X_then_ret ?_)))))
    exact Xq9 [] (Ps:=[]) (res1 Tryz.results114 rfl) rfl (by decide) ⟨by rw [dirE_fall hfb0 hfall] <;> rfl,rfl⟩
   ·
    have htri:=less_tri (es.getD (k - 1) ent0).1 (es.getD k ent0).1
    have hup : 1 ≤ k → Op.bytesLess ((nms es).getD (k - 1) []) ((nms es).getD k []) = true:=fun hk1 => by rw [nms_at (by omega),nms_at hlt2]; rw [hc41] at htri; simpa using htri
    refine K9 (X_block (X9 ?_))
    refine R9 (M9 rfl rfl (L9 rfl (Pn9 rfl rfl rfl (run_add _ _ _ _ _ (by omega))) (G9 rfl rfl (N9 ?_))))
    exact Xr9 (k + 1) ⟨by omega,by omega,riseP_succ hri hup⟩ (by omega) (a9 rfl) ⟨rfl,trivial⟩
  ·
   have hge2 : es.length ≤ k:=by have:=of_decide_eq_false hc27; omega
   have hris : riseP (nms es) es.length:=fun j hj h1 => hri j (by omega) h1
   refine W_exit (X_then_exit (X_then_exit (X_block_exit (X9 ?_))))
   refine Q9 (Q9 (R9 (M9 rfl rfl (L9 rfl (Pl9 (r:=0) rfl Tryz.runUnderlying118 rfl rfl hF) (L9 rfl (Pn9 rfl rfl rfl (run_gtr _ _ _ _ _ _)) (N9 (X9 ?_)))))))
   refine C9 rfl (fun hc44 => ?_) (fun hc44 => ?_)
   ·
    have h20 : 20 < es.length:=by have:=of_decide_eq_true hc44; omega
    refine Q9 (R9 (G9 rfl rfl (N9 (X9 ?_))))
    refine W_ret (X_then_ret ?_)
    exact Xq9 [] (Ps:=[]) (res1 Tryz.results114 rfl) rfl (by decide) ⟨by rw [dirE_many hfb0 hris h20] <;> rfl,rfl⟩
   ·
    have h20 : ¬ 20 < es.length:=by have:=of_decide_eq_false hc44; omega
    refine K9 (X9 ?_)
    refine Q9 (R9 (G9 rfl rfl (N9 (X9 ?_))))
    refine W_ret ?_
    exact Xq9 [] (Ps:=[]) (res1 Tryz.results114 rfl) rfl (by decide) ⟨by rw [dirE_ok hfb0 hris h20] <;> rfl,rfl⟩
end Go.Proofs.YthkdkmaacjpneaaGreatDoor
namespace Go.Proofs.YthkdkmaacjpneaaGreatDoor
open Go.RowKit Go.Lib
set_option maxRecDepth 8000

theorem entc_id {g : Nat} {t : TypeId} {nm id : List UInt8} (hid : id.length = 32) {h : Hlt} (hb : blk g t (entC nm id) h) : rdP 1 (.slice (some ⟨g,0 + 1,none⟩) 32 32) 32 (bs id) h :=
  blk_rd hb (by
    unfold entC
    rw [show 0 + 1 = 1 from rfl,List.drop_succ_cons,List.drop_zero]
    exact List.take_of_length_le (by rw [bs_length,hid]; omega)) (by rw [bs_length,hid]) (Nat.le_refl _)
theorem dir_spec (v : Value) (es : List Ent) (hE : Ents es) (hl : es.length ≤ 140737488355328) (hn : ∀ e ∈ es,e.1.length ≤ 140737488355328) (F : HP) (hF : ∀ h,F h → rdE v es h) (hT : ∀ h,F h → tabsP h) : CallsS Tryz.prog 68 #[v] F [] (fun r Ps => ∃ v',r = .tuple #[v',.int .i64 (dirE es : Int)] ∧ Ps = [rowB 5 v' (dirR es)]):=by
 refine callsS_enter Tryz.func68 rfl Tryz.ntmps68 (by simp) (fun E => ?_)
 refine Q9 (R9 (G9 rfl rfl (G9 rfl rfl (N9 (X9 (Q9 (Q9 (R9 (M9 rfl rfl (Lc9 rfl rfl (by decide) (Oc9 200 [0] [] rfl Tryz.call98 rfl rfl rfl (by decide) (by decide) (bad_spec v es hE hl hn _ (rs9 0 rfl hF) (ts9 0 rfl hT)) (fun v9 Ps9 hR9 => ?_))))))))))))
 obtain ⟨rfl,rfl⟩:=hR9
 refine (G9 rfl rfl (N9 (X9 ?_)))
 refine Q9 (R9 (M9 rfl rfl (L9 rfl (Pn9 rfl rfl rfl (run_neq _ _ _ _ _ _)) (N9 (X9 ?_)))))
 refine C9 rfl (fun hc11 => ?_) (fun hc11 => ?_)
 ·
  have h0 : ¬ dirE es = 0:=by simpa using hc11
  refine Q9 (R9 (M9 rfl rfl (G9 rfl rfl (G9 rfl rfl (N9 (X9 ?_))))))
  refine W_ret (X_then_ret ?_)
  refine X_nilRow 9900 5 1 ?_
  exact Xq9 [9900] (Ps:=[_]) (res2 Tryz.results68 rfl rfl) rfl (by decide) ⟨_,rfl,by unfold dirR; rw [if_neg h0]; rfl⟩
 ·
  have h0 : dirE es = 0:=by simpa using hc11
  obtain ⟨h48,h20⟩:=dirE_zero h0
  refine K9 (X9 ?_)
  refine Q9 (R9 (G9 rfl rfl (N9 (X9 (Q9 (Q9 (R9 (M9 rfl rfl (L9 rfl (Pl9 (r:=0) rfl Tryz.runUnderlying118 rfl rfl hF) (M9 rfl rfl (N9 (X9 ?_))))))))))))
  refine W_block ?_
  refine W_nilRow 201 5 1 ?_
  refine W_loop (α:=Nat × Value) (fun x => [(5,x.2),(13,v),(14,.int .i64 (es.length : Int)),(15,.int .i64 (x.1 : Int))]) (fun x => [(0,F),(201,rowB 5 x.2 (dirTo es x.1))]) (fun x => x.1 ≤ es.length) (fun x => es.length - x.1) ((0,.slice none 0 0)) (Nat.zero_le _) (a9 rfl) (a9 rfl) (fun x hx => ?_)
  unfold rowB
  have hxl : x.1 ≤ es.length:=hx
  have hdl:=dirTo_len hE h48 x.1
  refine Q9 (R9 (L9 rfl (Pn9 rfl rfl rfl (run_lss _ _ _ _ _ _)) (N9 (X9 (Q9 ?_)))))
  refine C9 rfl (fun hc16 => ?_) (fun hc16 => ?_)
  ·
   have hlt : x.1 < es.length:=by have:=of_decide_eq_true hc16; omega
   have hid:=hE.get hlt
   have hnl:=h48 _ (getD_mem' (d:=ent0) hlt)
   refine K9 (X9 ?_)
   refine Q9 ?_
   refine W_block ?_
   refine Q9 (R9 (L9 rfl (Pi9 (r:=0) rfl Tryz.runUnderlying118 Tryz.sizeOf122 rfl rfl rfl hF (by omega)) (L9 rfl (Pz9 (r:=0) rfl Tryz.isAgg122 Tryz.sizeOf122 rfl rfl hF (entC_length hid) (by decide) (ent_all (k:=x.1) hE hlt)) (Lc9 rfl rfl (by decide) (OpT_alloc (r:=202) rfl (zero_run (by kernel_rfl : (Tryz.prog.info? 122).bind (·.zero) = some (.agg (entC [] zeroId).toArray))) rfl (fun g202 => (Lc09 rfl rfl (OpT_storeAll (r:=202) rfl Tryz.sizeOf122 rfl rfl rfl rfl (entC_length hid) (entC_one _ _) ?_))))))))
   refine (N9 (X9 ?_))
   refine Q9 (R9 (M9 rfl rfl (L9 rfl (F9 0 rfl rfl) (L9 rfl (Pb9 (r:=202) rfl Tryz.isAgg9 rfl rfl rfl) (L9 rfl (Pu_lenStr rfl Tryz.underlying9 rfl) (L9 rfl (Pu_conv rfl rfl (conv_byte _ _ Tryz.runUnderlying3 Tryz.runUnderlying5)) (Lc9 rfl rfl (by decide) (OpT_buildOnes (r:=203) (bs [byte ((es.getD x.1 ent0).1.length : Int)]) rfl rfl Tryz.runUnderlying36 Tryz.sizeOf5 Tryz.zeroValue5 rfl rfl (by decide) rfl (bs_cells _) (fun v24 => (Lc9 rfl rfl (by decide) (Oa9 (r:=201) (r2:=203) rfl Tryz.underlying36 TI.hi5 TI.hz5 TI.hs5 TI.hby5 TI.hzs5 (by decide) rfl rfl rfl rfl (fun _ h => rp9 h) (bs_one _) (by unfold maxLen; omega) (by omega) (fun v25 => ?_))))))))))))
   refine (G9 rfl rfl (N9 (X9 ?_)))
   refine Q9 (R9 (M9 rfl rfl (L9 rfl (F9 0 rfl rfl) (L9 rfl (Pb9 (r:=202) rfl Tryz.isAgg9 rfl rfl rfl) (Lc9 rfl rfl (by decide) (OpT_appendStr (r:=201) rfl Tryz.underlying36 Tryz.underlying9 TI.hi5 TI.hz5 TI.hs5 TI.hby5 TI.hzs5 rfl rfl rfl (by unfold maxLen; omega) (by omega) (fun v29 => ?_)))))))
   refine (G9 rfl rfl (N9 (X9 ?_)))
   refine R9 (M9 rfl rfl (L9 rfl (F9 1 rfl rfl) (L9 rfl (Pu_sliceArr rfl Tryz.runUnderlying29 Tryz.sizeOf5 rfl) (Lc9 rfl rfl (by decide) (Oa9 (r:=201) (r2:=202) rfl Tryz.underlying36 TI.hi5 TI.hz5 TI.hs5 TI.hby5 TI.hzs5 (by decide) rfl rfl rfl rfl (fun h hp => entc_id hid hp) (bs_one _) (by unfold maxLen; omega) (by omega) (fun v33 => ?_))))))
   refine (G9 rfl rfl (N9 (X_block (X9 ?_))))
   refine R9 (L9 rfl (Pn9 rfl rfl rfl (run_add _ _ _ _ _ (by omega))) (M9 rfl rfl (N9 ?_)))
   exact Xr9 (x.1 + 1,v33) hlt (by dsimp only; omega) ⟨rfl,rfl,rfl,rfl,trivial⟩ ⟨rfl,look_eq rfl (rowB_of (dirTo es (x.1 + 1)) (by rw [dirTo_succ hlt]; simp only [List.length_append,List.length_cons,List.length_nil,hid]) (by rw [dirTo_succ hlt,bs_append,bs_append,bs_append])),trivial⟩
  ·
   obtain hfin : x.1 = es.length:=by have:=of_decide_eq_false hc16; omega
   refine W_exit (X_then_exit (X_then_exit (X_block_exit (X9 ?_))))
   refine Q9 (R9 (M9 rfl rfl (G9 rfl rfl (G9 rfl rfl (N9 (X9 ?_))))))
   refine W_ret ?_
   exact Xq9 [201] (Ps:=[_]) (res2 Tryz.results68 rfl rfl) rfl (by decide) ⟨_,by rw [h0] <;> rfl,by unfold dirR; rw [if_pos h0,hfin,dirTo_all]⟩
theorem refDir_spec (v : Value) (es : List Ent) (hE : Ents es) (hl : es.length ≤ 140737488355328) (hn : ∀ e ∈ es,e.1.length ≤ 140737488355328) (F : HP) (hF : ∀ h,F h → rdE v es h) : CallsS Tryz.prog 77 #[v] F [] (fun r Ps => ∃ v',r = .tuple #[v',.int .i64 (dirE es : Int)] ∧ Ps = [rowB 5 v' (dirR es)]):=by
 refine callsS_enter Tryz.func77 rfl Tryz.ntmps77 (by simp) (fun E => ?_)
 refine Q9 (R9 (G9 rfl rfl (G9 rfl rfl (N9 (X9 (Q9 (Q9 (R9 (M9 rfl rfl (Lc9 rfl rfl (by decide) (Oc9 200 [0] [] rfl Tryz.call114 rfl rfl rfl (by decide) (by decide) (wrongDir_spec v es hE hl hn _ (rs9 0 rfl hF)) (fun v7 Ps7 hR7 => ?_))))))))))))
 obtain ⟨rfl,rfl⟩:=hR7
 refine (L9 rfl (Pn9 rfl rfl rfl (run_neq _ _ _ _ _ _)) (N9 (X9 ?_)))
 refine C9 rfl (fun hc8 => ?_) (fun hc8 => ?_)
 ·
  have h0 : ¬ dirE es = 0:=by simpa using hc8
  refine Q9 (R9 (M9 rfl rfl (Lc9 rfl rfl (by decide) (Oc9 300 [0] [] rfl Tryz.call114 rfl rfl rfl (by decide) (by decide) (wrongDir_spec v es hE hl hn _ (rs9 0 rfl hF)) (fun v10 Ps10 hR10 => ?_)))))
  obtain ⟨rfl,rfl⟩:=hR10
  refine (G9 rfl rfl (G9 rfl rfl (N9 (X9 ?_))))
  refine W_ret (X_then_ret ?_)
  refine X_nilRow 9900 5 1 ?_
  exact Xq9 [9900] (Ps:=[_]) (res2 Tryz.results77 rfl rfl) rfl (by decide) ⟨_,rfl,by unfold dirR; rw [if_neg h0]; rfl⟩
 ·
  have h0 : dirE es = 0:=by simpa using hc8
  obtain ⟨h48,h20⟩:=dirE_zero h0
  refine K9 (X9 ?_)
  refine Q9 (R9 (G9 rfl rfl (N9 (X9 (Q9 (Q9 (R9 (G9 rfl rfl (N9 (X9 ?_))))))))))
  refine W_block ?_
  refine W_nilRow 201 5 1 ?_
  refine W_loop (α:=Nat × Value) (fun x => [(0,v),(4,x.2),(5,.int .i64 (x.1 : Int))]) (fun x => [(0,F),(201,rowB 5 x.2 (dirTo es x.1))]) (fun x => x.1 ≤ es.length) (fun x => es.length - x.1) ((0,.slice none 0 0)) (Nat.zero_le _) (a9 rfl) (a9 rfl) (fun x hx => ?_)
  unfold rowB
  have hxl : x.1 ≤ es.length:=hx
  have hdl:=dirTo_len hE h48 x.1
  refine Q9 (Q9 (R9 (M9 rfl rfl (M9 rfl rfl (L9 rfl (Pl9 (r:=0) rfl Tryz.runUnderlying118 rfl rfl hF) (L9 rfl (Pn9 rfl rfl rfl (run_lss _ _ _ _ _ _)) (N9 (X9 ?_))))))))
  refine C9 rfl (fun hc14 => ?_) (fun hc14 => ?_)
  ·
   have hlt : x.1 < es.length:=by have:=of_decide_eq_true hc14; omega
   have hid:=hE.get hlt
   have hnl:=h48 _ (getD_mem' (d:=ent0) hlt)
   refine K9 (X9 ?_)
   refine Q9 ?_
   refine W_block ?_
   refine W_draw (N:=23) (by kernel_rfl) rfl [(0,_)] ⟨rfl,trivial⟩ ?_
   refine (T9 0 rfl rfl (Pm9 rfl rfl) (T9 1 rfl rfl (Pm9 rfl rfl) (T9 2 rfl rfl (Pm9 rfl rfl) (T9 3 rfl rfl (Pi9 (r:=0) rfl Tryz.runUnderlying118 Tryz.sizeOf122 rfl rfl rfl hF (by omega)) (T9 4 rfl rfl (Pu_fieldAddrE (off:=0) rfl rfl (by kernel_rfl)) (T9 5 rfl rfl (Py9 (r:=0) rfl Tryz.isAgg9 rfl rfl hF (ent_name (k:=x.1) hE hlt)) (T9 6 rfl rfl (Pu_lenStr rfl Tryz.underlying9 rfl) (T9 7 rfl rfl (Pu_conv rfl rfl (conv_byte _ _ Tryz.runUnderlying3 Tryz.runUnderlying5)) (T9 10 rfl rfl (Pm9 rfl rfl) (T9 11 rfl rfl (Pm9 rfl rfl) (T9 12 rfl rfl (Pi9 (r:=0) rfl Tryz.runUnderlying118 Tryz.sizeOf122 rfl rfl rfl hF (by omega)) (T9 13 rfl rfl (Pu_fieldAddrE (off:=0) rfl rfl (by kernel_rfl)) (T9 14 rfl rfl (Py9 (r:=0) rfl Tryz.isAgg9 rfl rfl hF (ent_name (k:=x.1) hE hlt)) (T9 16 rfl rfl (Pm9 rfl rfl) (T9 17 rfl rfl (Pm9 rfl rfl) (T9 18 rfl rfl (Pi9 (r:=0) rfl Tryz.runUnderlying118 Tryz.sizeOf122 rfl rfl rfl hF (by omega)) (T9 19 rfl rfl (Pu_fieldAddrE (off:=1) rfl rfl (by kernel_rfl)) (T9 20 rfl rfl (Pu_sliceArrE rfl Tryz.runUnderlying29 Tryz.sizeOf5 rfl) (Y9 [8] ?_)))))))))))))))))))
   refine Z9 rfl rfl (OpT_buildOnes (r:=202) (bs [byte ((es.getD x.1 ent0).1.length : Int)]) rfl rfl Tryz.runUnderlying36 Tryz.sizeOf5 Tryz.zeroValue5 rfl rfl (by decide) rfl (bs_cells _) (fun v25 => ⟨⟨rfl,trivial⟩,?_⟩)) ?_
   ·
    refine (Y9 [9] ?_)
    refine Z9 rfl rfl (Oa9 (r:=201) (r2:=202) rfl Tryz.underlying36 TI.hi5 TI.hz5 TI.hs5 TI.hby5 TI.hzs5 (by decide) rfl rfl rfl rfl (fun _ h => rp9 h) (bs_one _) (by unfold maxLen; omega) (by omega) (fun v26 => ?_)) ?_
    ·
     refine ⟨⟨rfl,trivial⟩,?_⟩
     refine (Y9 [15] ?_)
     refine Z9 rfl rfl (OpT_appendStr (r:=201) rfl Tryz.underlying36 Tryz.underlying9 TI.hi5 TI.hz5 TI.hs5 TI.hby5 TI.hzs5 rfl rfl rfl (by unfold maxLen; omega) (by omega) (fun v32 => ?_)) ?_
     ·
      refine ⟨⟨rfl,trivial⟩,?_⟩
      refine (Y9 [21] ?_)
      refine Z9 rfl rfl (Oa9 (r:=201) (r2:=0) rfl Tryz.underlying36 TI.hi5 TI.hz5 TI.hs5 TI.hby5 TI.hzs5 (by decide) rfl rfl rfl rfl (fun h hp => ent_id (k:=x.1) hE (hF h hp) rfl hlt) (bs_one _) (by unfold maxLen; omega) (by omega) (fun v38 => ?_)) ?_
      ·
       refine ⟨⟨rfl,trivial⟩,?_⟩
       refine (T9 22 rfl rfl (Pg9 rfl rfl) (Ad9 (by kernel_rfl) (X_block (X9 ?_))))
       refine R9 (M9 rfl rfl (L9 rfl (Pn9 rfl rfl rfl (run_add _ _ _ _ _ (by omega))) (G9 rfl rfl (N9 ?_))))
       exact Xr9 (x.1 + 1,v38) hlt (by dsimp only; omega) ⟨rfl,rfl,rfl,trivial⟩ ⟨rfl,look_eq rfl (rowB_of (dirTo es (x.1 + 1)) (by rw [dirTo_succ hlt]; simp only [List.length_append,List.length_cons,List.length_nil,hid]) (by rw [dirTo_succ hlt,bs_append,bs_append,bs_append])),trivial⟩
      exact An9
     exact An9
    exact An9
   exact An9
  ·
   obtain hfin : x.1 = es.length:=by have:=of_decide_eq_false hc14; omega
   refine W_exit (X_then_exit (X_then_exit (X_block_exit (X9 ?_))))
   refine Q9 (R9 (M9 rfl rfl (G9 rfl rfl (G9 rfl rfl (N9 (X9 ?_))))))
   refine W_ret ?_
   exact Xq9 [201] (Ps:=[_]) (res2 Tryz.results77 rfl rfl) rfl (by decide) ⟨_,by rw [h0] <;> rfl,by unfold dirR; rw [if_pos h0,hfin,dirTo_all]⟩
end Go.Proofs.YthkdkmaacjpneaaGreatDoor
namespace Go.Proofs.YthkdkmaacjpneaaGreatDoor
open Go.RowKit Go.Lib
set_option maxRecDepth 8000

theorem rdB_subE {v : Value} {l l' : List UInt8} {h : Hlt} (hr : rdB v l h) {a b : Nat} (hab : a ≤ b) (hb : b ≤ l.length) (hl : (l.drop a).take (b - a) = l') : rdB (subV 1 v a b) l' h:=by subst hl; exact rdB_sub hr hab hb
theorem copy_id {nm r : List UInt8} (h : 32 ≤ r.length) : over (entC nm zeroId) (0 + 1) ((bs r).take (min r.length 32)) = entC nm (r.take 32):=by
  have hz : (bs zeroId).length = 32:=by rw [bs_length,zeroId_length]
  have ht : ((bs r).take (min r.length 32)) = bs (r.take 32):=by rw [Nat.min_eq_right h,bs_take]
  have hl : (bs (r.take 32)).length = 32:=by rw [bs_length,List.length_take]; omega
  rw [ht]
  have:=over_mid [sV nm] (bs zeroId) (bs (r.take 32)) [] (by rw [hz,hl])
  simpa [entC] using this
theorem ent_load (e : Ent) (h : e.2.length = 32) : ((entC e.1 e.2).drop 0).take 33 = entF e:=load_all (entC_length h)
def nb (b : List UInt8) : Nat:=(at0 b 0).toNat
theorem nb_lt (b : List UInt8) : nb b < 256:=(at0 b 0).toNat_lt
theorem need_nb (b : List UInt8) : need b = 1 + nb b + 32:=rfl
theorem entOf_name (b : List UInt8) : (entOf b).1.length ≤ 256:=by have:=nb_lt b; unfold nb at this; simp [entOf]; omega
def Short (es : List Ent) : Prop:=∀ e ∈ es,e.1.length ≤ 256
theorem Short.snoc {es : List Ent} (h : Short es) (b : List UInt8) : Short (es ++ [entOf b]):=fun x hx => by
  rcases List.mem_append.1 hx with hx | hx
  · exact h x hx
  · simp at hx; subst hx; exact entOf_name b
theorem Short.nil : Short []:=fun x hx => by cases hx
theorem ent_build {nm id : List UInt8} (h : id.length = 32) : over ((entC [] zeroId).set 0 (sV nm)) 1 (bs id) = entC nm id:=by
  have hz : (bs zeroId).length = 32:=by rw [bs_length,zeroId_length]
  have:=over_mid [sV nm] (bs zeroId) (bs id) [] (by rw [hz,bs_length,h])
  simpa [entC] using this
def ParS (l : List UInt8) (c : Nat) (acc : List Ent) : Prop:=c ≤ l.length ∧ par (l.drop c) acc = par l [] ∧ Ents acc ∧ Short acc ∧ acc.length ≤ c
theorem ParS.init (l : List UInt8) : ParS l 0 []:=⟨Nat.zero_le _,rfl,Ents.nil,Short.nil,Nat.zero_le _⟩
theorem ParS.next {l : List UInt8} {c : Nat} {acc : List Ent} (h : ParS l c acc) {b : List UInt8} (hb : l.drop c = b) (hne : b ≠ []) (hn : ¬ b.length < need b) : ParS l (c + need b) (acc ++ [entOf b]):=by
  obtain ⟨h1,h2,h3,h4,h5⟩:=h
  have hl : b.length = l.length - c:=by rw [← hb,List.length_drop]
  have hnn : 1 ≤ need b:=by unfold need; omega
  refine ⟨by omega,?_,h3.snoc (entOf_id hn),h4.snoc b,by simp; omega⟩
  rw [← h2,hb,par_next hne hn,← hb,List.drop_drop]
theorem ParS.cut {l : List UInt8} {c : Nat} {acc : List Ent} (h : ParS l c acc) {b : List UInt8} (hb : l.drop c = b) (hne : b ≠ []) (hn : b.length < need b) : par l [] = ([],8):=by
  rw [← h.2.1,hb,par_cut hne hn]
theorem ParS.done {l : List UInt8} {c : Nat} {acc : List Ent} (h : ParS l c acc) (hb : l.length ≤ c) : par l [] = finP acc:=by
  rw [← h.2.1,List.drop_of_length_le hb,par_nil]
theorem finP_bad {acc : List Ent} (h : ¬ dirE acc = 0) : finP acc = ([],dirE acc):=by unfold finP; rw [if_pos h]
theorem finP_ok {acc : List Ent} (h : dirE acc = 0) : finP acc = (acc,0):=by unfold finP; rw [if_neg (fun hc => hc h)]
theorem at0_of_drop {l b : List UInt8} {k : Nat} (h : l.drop k = b) : at0 l k = at0 b 0:=by rw [← h]; simp [at0]
theorem parseDir_spec (v : Value) (l : List UInt8) (hl : l.length ≤ 2000000) (F : HP) (hF : ∀ h,F h → rdB v l h) (hT : ∀ h,F h → tabsP h) : CallsS Tryz.prog 82 #[v] F [] (fun r Ps => ∃ v',r = .tuple #[v',.int .i64 ((par l []).2 : Int)] ∧ Ps = [rowE 122 v' (par l []).1]):=by
 refine callsS_enter Tryz.func82 rfl Tryz.ntmps82 (by simp) (fun E => ?_)
 refine Q9 (R9 (G9 rfl rfl (G9 rfl rfl (N9 (X9 (Q9 (R9 (G9 rfl rfl (N9 (X9 (Q9 ?_)))))))))))
 refine W_block ?_
 refine W_nilRow 101 122 33 ?_
 refine W_loop (α:=Nat × Value × Value × List Ent) (fun x => [(0,x.2.1),(4,x.2.2.1)]) (fun x => [(0,F),(101,rowE 122 x.2.2.1 x.2.2.2)]) (fun x => ParS l x.1 x.2.2.2 ∧ ∀ h,F h → rdB x.2.1 (l.drop x.1) h) (fun x => l.length - x.1) ((0,v,.slice none 0 0,[])) ⟨ParS.init l,fun h hp => by rw [List.drop_zero]; exact hF h hp⟩ (a9 rfl) (a9 rfl) (fun x hx => ?_)
 obtain ⟨hps,hvb⟩:=hx
 have hxl:=hps.1
 have hacc:=hps.2.2.2.2
 unfold rowE rowR
 refine Q9 (Q9 (R9 (M9 rfl rfl (L9 rfl (Pl9 (r:=0) rfl Tryz.runUnderlying36 rfl rfl hvb) (L9 rfl (Pn9 rfl rfl rfl (run_gtr _ _ _ _ _ _)) (N9 (X9 ?_)))))))
 refine C9 rfl (fun hc10 => ?_) (fun hc10 => ?_)
 ·
  have hlt : x.1 < l.length:=by have h:=of_decide_eq_true hc10; rw [List.length_drop] at h; omega
  obtain ⟨b,hb⟩ : ∃ b,l.drop x.1 = b:=⟨_,rfl⟩
  have hbl : b.length = l.length - x.1:=by rw [← hb,List.length_drop]
  have hbne : b ≠ []:=fun hc => by rw [hc] at hbl; simp at hbl; omega
  have hnb:=nb_lt b
  have hneed:=need_nb b
  rw [hb] at hvb
  rw [hb]
  refine K9 (X9 ?_)
  refine W_block ?_
  refine Q9 (R9 (M9 rfl rfl (L9 rfl (Pu_idxS1 (r:=0) rfl Tryz.runUnderlying36 Tryz.sizeOf5 rfl rfl rfl hvb (by omega)) (L9 rfl (Py9 (r:=0) rfl Tryz.isAgg5 rfl rfl hvb (bs_at1 (k:=0) (by omega))) (L9 rfl (Pu_conv rfl rfl (conv_u8 _ Tryz.runUnderlying5 Tryz.runUnderlying3)) (G9 rfl rfl (N9 (X9 (Q9 (Q9 (R9 (M9 rfl rfl (L9 rfl (Pl9 (r:=0) rfl Tryz.runUnderlying36 rfl rfl hvb) (M9 rfl rfl (L9 rfl (Pn9 rfl rfl rfl (run_add _ _ _ _ _ (by show -9223372036854775808 ≤ 1 + (nb b : Int) ∧ 1 + (nb b : Int) < 9223372036854775808; omega))) (L9 rfl (Pn9 rfl rfl rfl (run_add _ _ _ _ _ (by show -9223372036854775808 ≤ 1 + (nb b : Int) + 32 ∧ 1 + (nb b : Int) + 32 < 9223372036854775808; omega))) (L9 rfl (Pn9 rfl rfl rfl (run_lss _ _ _ _ _ _)) (N9 (X9 ?_)))))))))))))))))))
  refine C9 rfl (fun hc20 => ?_) (fun hc20 => ?_)
  ·
   have hcut : b.length < need b:=by have h : (b.length : Int) < 1 + (nb b : Int) + 32:=of_decide_eq_true hc20; omega
   have hpc:=hps.cut hb hbne hcut
   refine Q9 (R9 (G9 rfl rfl (G9 rfl rfl (N9 (X9 ?_)))))
   refine W_ret (X_then_ret (X_block_ret (X_then_ret (X_block_ret (X_then_ret ?_)))))
   refine X_nilRow 9900 122 33 ?_
   exact Xq9 [9900] (Ps:=[_]) (res2 Tryz.results82 rfl rfl) rfl (by decide) ⟨_,by rw [hpc] <;> rfl,by rw [hpc] <;> rfl⟩
  ·
   have hno : ¬ b.length < need b:=by have h : ¬ (b.length : Int) < 1 + (nb b : Int) + 32:=of_decide_eq_false hc20; omega
   have hid:=entOf_id hno
   refine K9 (X9 ?_)
   refine Q9 (R9 (M9 rfl rfl (M9 rfl rfl (L9 rfl (Pn9 rfl rfl rfl (run_add _ _ _ _ _ (by show -9223372036854775808 ≤ 1 + (nb b : Int) ∧ 1 + (nb b : Int) < 9223372036854775808; omega))) (L9 rfl (Pu_slice (r:=0) (a:=1) (b:=1 + nb b) rfl Tryz.runUnderlying36 Tryz.sizeOf5 rfl rfl hvb (.inr ⟨_,_,_,rfl,rfl,rfl⟩) (.inr ⟨_,_,_,rfl,rfl,(by show 1 + (nb b : Int) = _; omega)⟩) (by omega) (by omega)) (L9 rfl (Pu_convBS (r:=0) rfl Tryz.underlying36 Tryz.underlying5 Tryz.underlying9 rfl rfl (fun h hp => rdB_subE (hvb h hp) (by omega) (by omega) (by rw [Nat.add_sub_cancel_left]; rfl))) (L9 rfl (Pu_build (V:=.agg (entC (entOf b).1 zeroId).toArray) [(0,1),(1,32)] (entC [] zeroId) rfl rfl (by kernel_rfl) (by kernel_rfl) (.one rfl rfl (by simp [entC,bs_length,zeroId_length]) rfl (.nil _)) rfl) (Lc9 rfl rfl (by decide) (OpT_alloc (r:=102) rfl (zero_run (by kernel_rfl : (Tryz.prog.info? 122).bind (·.zero) = some (.agg (entC [] zeroId).toArray))) rfl (fun g102 => (Lc09 rfl rfl (OpT_storeAll (r:=102) rfl Tryz.sizeOf122 rfl rfl rfl rfl (entC_length zeroId_length) (entC_one _ _) ?_))))))))))))
   refine (N9 (X9 ?_))
   refine Q9 ?_
   refine W_draw (N:=7) (by kernel_rfl) rfl [(0,_)] ⟨rfl,trivial⟩ ?_
   refine (T9 0 rfl rfl (F9 1 rfl rfl) (T9 1 rfl rfl (Pu_sliceArr rfl Tryz.runUnderlying29 Tryz.sizeOf5 rfl) (T9 2 rfl rfl (Pm9 rfl rfl) (T9 3 rfl rfl (Pm9 rfl rfl) (T9 4 rfl rfl (Pn9 rfl rfl rfl (run_add _ _ _ _ _ (by show -9223372036854775808 ≤ 1 + (nb b : Int) ∧ 1 + (nb b : Int) < 9223372036854775808; omega))) (T9 5 rfl rfl (Pu_slice (r:=0) (a:=1 + nb b) (b:=b.length) rfl Tryz.runUnderlying36 Tryz.sizeOf5 rfl rfl hvb (.inr ⟨_,_,_,rfl,rfl,(by show 1 + (nb b : Int) = _; omega)⟩) (.inl ⟨rfl,rfl⟩) (by omega) (Nat.le_refl _)) (Y9 [6] ?_)))))))
   refine Z9 rfl rfl (OpT_copyB (r:=102) (r2:=0) rfl Tryz.underlying36 TI.hsm5 rfl rfl rfl rfl (fun h hp => rdB_tail (hvb h hp) (by omega)) (bs_one _) (by rw [entC_length zeroId_length]; omega) (copy_id (by rw [List.length_drop]; omega)) ?_) ?_
   ·
    refine ⟨⟨rfl,trivial⟩,?_⟩
    refine (Ad9 (by kernel_rfl) (X9 ?_))
    refine Q9 (R9 (M9 rfl rfl (L9 rfl (Px9 (r:=102) rfl Tryz.isAgg122 Tryz.sizeOf122 rfl rfl (entC_length hid) (ent_load (entOf b) hid)) (Lc9 rfl rfl (by decide) (OpT_buildRows (r:=103) [entF (entOf b)] rfl rfl Tryz.runUnderlying118 Tryz.sizeOf122 Tryz.zeroValue122 rfl (by decide) rfl (by decide) (by intro r hr; simp at hr; rw [hr]; exact entC_length hid) rfl (fun v36 => (Lc9 rfl rfl (by decide) (Oa9 (r:=101) (r2:=103) rfl Tryz.underlying118 TI.hi122 TI.hz122 TI.hs122 TI.hby122 TI.hzs122 (by decide) rfl rfl rfl rfl (fun _ h => rp9 h) (by rw [List.flatten_cons,List.flatten_nil,List.append_nil]; exact entC_one _ _) (by unfold maxLen; omega) (by omega) (fun v37 => ?_)))))))))
    refine (G9 rfl rfl (N9 (X9 ?_)))
    refine R9 (M9 rfl rfl (M9 rfl rfl (L9 rfl (Pn9 rfl rfl rfl (run_add _ _ _ _ _ (by show -9223372036854775808 ≤ 1 + (nb b : Int) ∧ 1 + (nb b : Int) < 9223372036854775808; omega))) (L9 rfl (Pn9 rfl rfl rfl (run_add _ _ _ _ _ (by show -9223372036854775808 ≤ 1 + (nb b : Int) + 32 ∧ 1 + (nb b : Int) + 32 < 9223372036854775808; omega))) (L9 rfl (Pu_slice (r:=0) (a:=1 + nb b + 32) (b:=b.length) rfl Tryz.runUnderlying36 Tryz.sizeOf5 rfl rfl hvb (.inr ⟨_,_,_,rfl,rfl,(by show 1 + (nb b : Int) + 32 = _; omega)⟩) (.inl ⟨rfl,rfl⟩) (by omega) (Nat.le_refl _)) (G9 rfl rfl (N9 (X_block ?_))))))))
    exact Xr9 (x.1 + need b,subV 1 x.2.1 (1 + nb b + 32) b.length,v37,x.2.2.2 ++ [entOf b]) ⟨hps.next hb hbne hno,fun h hp => by rw [← List.drop_drop,hb]; exact rdB_tail (hvb h hp) (by omega)⟩ (by dsimp only; omega) ⟨rfl,rfl,trivial⟩ ⟨rfl,look_eq rfl (rowR_of (x.2.2.2 ++ [entOf b]) (by simp) (by rw [recC_append,recC_one,List.flatten_cons,List.flatten_nil,List.append_nil])),trivial⟩
   exact An9
 ·
  have hge : l.length ≤ x.1:=by have h:=of_decide_eq_false hc10; rw [List.length_drop] at h; omega
  have hdone:=hps.done hge
  refine W_exit (X_then_exit (X_then_exit (X_block_exit (X9 ?_))))
  refine Q9 (Q9 (R9 (M9 rfl rfl (Lc9 rfl rfl (by decide) (Oc9 200 [0,101] [] rfl Tryz.call98 rfl rfl rfl (by decide) (by decide) (bad_spec x.2.2.1 x.2.2.2 hps.2.2.1 (by omega) (fun e he => by have:=hps.2.2.2.1 e he; omega) _ (rs9 1 rfl rowR_rd) (ts9 0 rfl hT)) (fun v44 Ps44 hR44 => ?_))))))
  obtain ⟨rfl,rfl⟩:=hR44
  refine (G9 rfl rfl (N9 (X9 ?_)))
  refine Q9 (R9 (M9 rfl rfl (L9 rfl (Pn9 rfl rfl rfl (run_neq _ _ _ _ _ _)) (N9 (X9 ?_)))))
  refine C9 rfl (fun hc46 => ?_) (fun hc46 => ?_)
  ·
   have h0 : ¬ dirE x.2.2.2 = 0:=by simpa using hc46
   rw [finP_bad h0] at hdone
   refine Q9 (R9 (M9 rfl rfl (G9 rfl rfl (G9 rfl rfl (N9 (X9 ?_))))))
   refine W_ret (X_then_ret ?_)
   refine X_nilRow 9900 122 33 ?_
   exact Xq9 [9900] (Ps:=[_]) (res2 Tryz.results82 rfl rfl) rfl (by decide) ⟨_,by rw [hdone] <;> rfl,by rw [hdone] <;> rfl⟩
  ·
   have h0 : dirE x.2.2.2 = 0:=by simpa using hc46
   rw [finP_ok h0] at hdone
   refine K9 (X9 ?_)
   refine Q9 (R9 (M9 rfl rfl (G9 rfl rfl (G9 rfl rfl (N9 (X9 ?_))))))
   refine W_ret ?_
   exact Xq9 [101] (Ps:=[_]) (res2 Tryz.results82 rfl rfl) rfl (by decide) ⟨_,by rw [hdone] <;> rfl,by rw [hdone]⟩
theorem refParseDir_spec (v : Value) (l : List UInt8) (hl : l.length ≤ 2000000) (F : HP) (hF : ∀ h,F h → rdB v l h) : CallsS Tryz.prog 117 #[v] F [] (fun r Ps => ∃ v',r = .tuple #[v',.int .i64 ((par l []).2 : Int)] ∧ Ps = [rowE 122 v' (par l []).1]):=by
 refine callsS_enter Tryz.func117 rfl Tryz.ntmps117 (by simp) (fun E => ?_)
 refine Q9 (R9 (G9 rfl rfl (G9 rfl rfl (N9 (X9 (Q9 (R9 (G9 rfl rfl (N9 (X9 (Q9 (Q9 (R9 (G9 rfl rfl (N9 (X9 ?_))))))))))))))))
 refine W_block ?_
 refine W_nilRow 101 122 33 ?_
 refine W_loop (α:=Nat × Value × Value × List Ent) (fun x => [(0,v),(4,x.2.2.1),(5,.int .i64 (x.1 : Int))]) (fun x => [(0,F),(101,rowE 122 x.2.2.1 x.2.2.2)]) (fun x => ParS l x.1 x.2.2.2) (fun x => l.length - x.1) ((0,v,.slice none 0 0,[])) (ParS.init l) (a9 rfl) (a9 rfl) (fun x hx => ?_)
 have hps:=hx
 have hxl:=hps.1
 have hacc:=hps.2.2.2.2
 unfold rowE rowR
 refine Q9 (Q9 (R9 (M9 rfl rfl (M9 rfl rfl (L9 rfl (Pl9 (r:=0) rfl Tryz.runUnderlying36 rfl rfl hF) (L9 rfl (Pn9 rfl rfl rfl (run_lss _ _ _ _ _ _)) (N9 (X9 ?_))))))))
 refine C9 rfl (fun hc10 => ?_) (fun hc10 => ?_)
 ·
  have hlt : x.1 < l.length:=by have h:=of_decide_eq_true hc10; omega
  obtain ⟨b,hb⟩ : ∃ b,l.drop x.1 = b:=⟨_,rfl⟩
  have hbl : b.length = l.length - x.1:=by rw [← hb,List.length_drop]
  have hbne : b ≠ []:=fun hc => by rw [hc] at hbl; simp at hbl; omega
  have hnb:=nb_lt b
  have hneed:=need_nb b
  refine K9 (X9 ?_)
  refine W_block ?_
  refine Q9 (R9 (M9 rfl rfl (M9 rfl rfl (L9 rfl (Pu_idxS1 (r:=0) rfl Tryz.runUnderlying36 Tryz.sizeOf5 rfl rfl rfl hF (by omega)) (L9 rfl (Py9 (r:=0) rfl Tryz.isAgg5 rfl rfl hF ((bs_at1 (k:=x.1) hlt).trans (congrArg (fun q => some (bv q)) (at0_of_drop hb)))) (L9 rfl (Pu_conv rfl rfl (conv_u8 _ Tryz.runUnderlying5 Tryz.runUnderlying3)) (G9 rfl rfl (N9 (X9 (Q9 (Q9 (R9 (M9 rfl rfl (L9 rfl (Pn9 rfl rfl rfl (run_add _ _ _ _ _ (by show -9223372036854775808 ≤ (x.1 : Int) + 1 ∧ (x.1 : Int) + 1 < 9223372036854775808; omega))) (M9 rfl rfl (L9 rfl (Pn9 rfl rfl rfl (run_add _ _ _ _ _ (by show -9223372036854775808 ≤ (x.1 : Int) + 1 + (nb b : Int) ∧ (x.1 : Int) + 1 + (nb b : Int) < 9223372036854775808; omega))) (L9 rfl (Pn9 rfl rfl rfl (run_add _ _ _ _ _ (by show -9223372036854775808 ≤ (x.1 : Int) + 1 + (nb b : Int) + 32 ∧ (x.1 : Int) + 1 + (nb b : Int) + 32 < 9223372036854775808; omega))) (M9 rfl rfl (L9 rfl (Pl9 (r:=0) rfl Tryz.runUnderlying36 rfl rfl hF) (L9 rfl (Pn9 rfl rfl rfl (run_gtr _ _ _ _ _ _)) (N9 (X9 ?_))))))))))))))))))))))
  refine C9 rfl (fun hc23 => ?_) (fun hc23 => ?_)
  ·
   have hcut : b.length < need b:=by have h : (l.length : Int) < (x.1 : Int) + 1 + (nb b : Int) + 32:=of_decide_eq_true hc23; omega
   have hpc:=hps.cut hb hbne hcut
   refine Q9 (R9 (G9 rfl rfl (G9 rfl rfl (N9 (X9 ?_)))))
   refine W_ret (X_then_ret (X_block_ret (X_then_ret (X_block_ret (X_then_ret ?_)))))
   refine X_nilRow 9900 122 33 ?_
   exact Xq9 [9900] (Ps:=[_]) (res2 Tryz.results117 rfl rfl) rfl (by decide) ⟨_,by rw [hpc] <;> rfl,by rw [hpc] <;> rfl⟩
  ·
   have hno : ¬ b.length < need b:=by have h : ¬ (l.length : Int) < (x.1 : Int) + 1 + (nb b : Int) + 32:=of_decide_eq_false hc23; omega
   have hid:=entOf_id hno
   refine K9 (X9 ?_)
   refine Q9 ?_
   refine W_draw (N:=21) (by kernel_rfl) rfl [(0,_)] ⟨rfl,trivial⟩ ?_
   refine (T9 0 rfl rfl (Pm9 rfl rfl) (T9 1 rfl rfl (Pm9 rfl rfl) (T9 2 rfl rfl (Pm9 rfl rfl) (T9 3 rfl rfl (Pn9 rfl rfl rfl (run_add _ _ _ _ _ (by show -9223372036854775808 ≤ (x.1 : Int) + 1 ∧ (x.1 : Int) + 1 < 9223372036854775808; omega))) (T9 4 rfl rfl (Pm9 rfl rfl) (T9 5 rfl rfl (Pn9 rfl rfl rfl (run_add _ _ _ _ _ (by show -9223372036854775808 ≤ (x.1 : Int) + 1 ∧ (x.1 : Int) + 1 < 9223372036854775808; omega))) (T9 6 rfl rfl (Pm9 rfl rfl) (T9 7 rfl rfl (Pn9 rfl rfl rfl (run_add _ _ _ _ _ (by show -9223372036854775808 ≤ (x.1 : Int) + 1 + (nb b : Int) ∧ (x.1 : Int) + 1 + (nb b : Int) < 9223372036854775808; omega))) (T9 8 rfl rfl (Pu_slice (r:=0) (a:=x.1 + 1) (b:=x.1 + 1 + nb b) rfl Tryz.runUnderlying36 Tryz.sizeOf5 rfl rfl hF (.inr ⟨_,_,_,rfl,rfl,(by show (x.1 : Int) + 1 = _; omega)⟩) (.inr ⟨_,_,_,rfl,rfl,(by show (x.1 : Int) + 1 + (nb b : Int) = _; omega)⟩) (by omega) (by omega)) (T9 9 rfl rfl (Pu_convBS (r:=0) rfl Tryz.underlying36 Tryz.underlying5 Tryz.underlying9 rfl rfl (fun h hp => rdB_subE (l':=(entOf b).1) (hF h hp) (by omega) (by omega) (by rw [Nat.add_sub_cancel_left,← List.drop_drop,hb]; rfl))) (T9 10 rfl rfl (Pm9 rfl rfl) (T9 11 rfl rfl (Pm9 rfl rfl) (T9 12 rfl rfl (Pn9 rfl rfl rfl (run_add _ _ _ _ _ (by show -9223372036854775808 ≤ (x.1 : Int) + 1 ∧ (x.1 : Int) + 1 < 9223372036854775808; omega))) (T9 13 rfl rfl (Pm9 rfl rfl) (T9 14 rfl rfl (Pn9 rfl rfl rfl (run_add _ _ _ _ _ (by show -9223372036854775808 ≤ (x.1 : Int) + 1 + (nb b : Int) ∧ (x.1 : Int) + 1 + (nb b : Int) < 9223372036854775808; omega))) (T9 15 rfl rfl (Pu_slice (r:=0) (a:=x.1 + 1 + nb b) (b:=l.length) rfl Tryz.runUnderlying36 Tryz.sizeOf5 rfl rfl hF (.inr ⟨_,_,_,rfl,rfl,(by show (x.1 : Int) + 1 + (nb b : Int) = _; omega)⟩) (.inl ⟨rfl,rfl⟩) (by omega) (Nat.le_refl _)) (Y9 [16] ?_)))))))))))))))))
   refine Z9 rfl rfl (Oc9 200 [0,101] [] rfl Tryz.call150 rfl rfl rfl (by decide) (by decide) (refId_spec _ (l.drop (x.1 + 1 + nb b)) _ (rs9 0 rfl (fun h hp => rdB_tail (hF h hp) (by omega))) (by show 32 ≤ (l.drop (x.1 + 1 + nb b)).length; rw [List.length_drop]; omega)) (fun v40 Ps40 hR40 => ?_)) ?_
   ·
    obtain ⟨rfl,rfl⟩:=hR40
    refine ⟨⟨rfl,trivial⟩,?_⟩
    rw [show (l.drop (x.1 + 1 + nb b)).take 32 = (entOf b).2 from by rw [Nat.add_assoc,← List.drop_drop,hb]; rfl]
    refine (T9 17 rfl rfl (Pu_build (V:=.agg (entF (entOf b)).toArray) [(0,1),(1,32)] (entC [] zeroId) rfl rfl (by kernel_rfl) (by kernel_rfl) (.one rfl rfl (by simp [entC,bs_length,zeroId_length]) rfl (.many rfl ((bs_length _).trans hid) (by simp [entC,bs_length,zeroId_length]) rfl (.nil _))) (congrArg (fun q : List Value => Value.agg q.toArray) (ent_build hid))) (Y9 [18] ?_))
    refine Z9 rfl rfl (OpT_buildRows (r:=201) [entF (entOf b)] rfl rfl Tryz.runUnderlying118 Tryz.sizeOf122 Tryz.zeroValue122 rfl (by decide) rfl (by decide) (by intro r hr; simp at hr; rw [hr]; exact entC_length hid) rfl (fun v42 => ⟨⟨rfl,trivial⟩,?_⟩)) ?_
    ·
     refine (Y9 [19] ?_)
     refine Z9 rfl rfl (Oa9 (r:=101) (r2:=201) rfl Tryz.underlying118 TI.hi122 TI.hz122 TI.hs122 TI.hby122 TI.hzs122 (by decide) rfl rfl rfl rfl (fun _ h => rp9 h) (by rw [List.flatten_cons,List.flatten_nil,List.append_nil]; exact entC_one _ _) (by unfold maxLen; omega) (by omega) (fun v43 => ?_)) ?_
     ·
      refine ⟨⟨rfl,trivial⟩,?_⟩
      refine (T9 20 rfl rfl (Pg9 rfl rfl) (Ad9 (by kernel_rfl) (X9 ?_)))
      refine R9 (M9 rfl rfl (L9 rfl (Pn9 rfl rfl rfl (run_add _ _ _ _ _ (by show -9223372036854775808 ≤ (x.1 : Int) + 1 ∧ (x.1 : Int) + 1 < 9223372036854775808; omega))) (M9 rfl rfl (L9 rfl (Pn9 rfl rfl rfl (run_add _ _ _ _ _ (by show -9223372036854775808 ≤ (x.1 : Int) + 1 + (nb b : Int) ∧ (x.1 : Int) + 1 + (nb b : Int) < 9223372036854775808; omega))) (L9 rfl (Pn9 rfl rfl rfl (run_add _ _ _ _ _ (by show -9223372036854775808 ≤ (x.1 : Int) + 1 + (nb b : Int) + 32 ∧ (x.1 : Int) + 1 + (nb b : Int) + 32 < 9223372036854775808; omega))) (G9 rfl rfl (N9 (X_block ?_))))))))
      exact Xr9 (x.1 + need b,x.2.1,v43,x.2.2.2 ++ [entOf b]) (hps.next hb hbne hno) (by dsimp only; omega) ⟨rfl,rfl,congrArg some (int_val (by show (x.1 : Int) + 1 + (nb b : Int) + 32 = ((x.1 + need b : Nat) : Int); omega)),trivial⟩ ⟨rfl,look_eq rfl (rowR_of (x.2.2.2 ++ [entOf b]) (by simp) (by rw [recC_append,recC_one,List.flatten_cons,List.flatten_nil,List.append_nil])),trivial⟩
     exact An9
    exact An9
   exact An9
 ·
  have hge : l.length ≤ x.1:=by have h:=of_decide_eq_false hc10; omega
  have hdone:=hps.done hge
  refine W_exit (X_then_exit (X_then_exit (X_block_exit (X9 ?_))))
  refine Q9 (Q9 (R9 (M9 rfl rfl (Lc9 rfl rfl (by decide) (Oc9 200 [0,101] [] rfl Tryz.call114 rfl rfl rfl (by decide) (by decide) (wrongDir_spec x.2.2.1 x.2.2.2 hps.2.2.1 (by omega) (fun e he => by have:=hps.2.2.2.1 e he; omega) _ (rs9 1 rfl rowR_rd)) (fun v50 Ps50 hR50 => ?_))))))
  obtain ⟨rfl,rfl⟩:=hR50
  refine (L9 rfl (Pn9 rfl rfl rfl (run_neq _ _ _ _ _ _)) (N9 (X9 ?_)))
  refine C9 rfl (fun hc51 => ?_) (fun hc51 => ?_)
  ·
   have h0 : ¬ dirE x.2.2.2 = 0:=by simpa using hc51
   rw [finP_bad h0] at hdone
   refine Q9 (R9 (M9 rfl rfl (Lc9 rfl rfl (by decide) (Oc9 300 [0,101] [] rfl Tryz.call114 rfl rfl rfl (by decide) (by decide) (wrongDir_spec x.2.2.1 x.2.2.2 hps.2.2.1 (by omega) (fun e he => by have:=hps.2.2.2.1 e he; omega) _ (rs9 1 rfl rowR_rd)) (fun v53 Ps53 hR53 => ?_)))))
   obtain ⟨rfl,rfl⟩:=hR53
   refine (G9 rfl rfl (G9 rfl rfl (N9 (X9 ?_))))
   refine W_ret (X_then_ret ?_)
   refine X_nilRow 9900 122 33 ?_
   exact Xq9 [9900] (Ps:=[_]) (res2 Tryz.results117 rfl rfl) rfl (by decide) ⟨_,by rw [hdone] <;> rfl,by rw [hdone] <;> rfl⟩
  ·
   have h0 : dirE x.2.2.2 = 0:=by simpa using hc51
   rw [finP_ok h0] at hdone
   refine K9 (X9 ?_)
   refine Q9 (R9 (M9 rfl rfl (G9 rfl rfl (G9 rfl rfl (N9 (X9 ?_))))))
   refine W_ret ?_
   exact Xq9 [101] (Ps:=[_]) (res2 Tryz.results117 rfl rfl) rfl (by decide) ⟨_,by rw [hdone] <;> rfl,by rw [hdone]⟩
end Go.Proofs.YthkdkmaacjpneaaGreatDoor
namespace Go.Proofs.YthkdkmaacjpneaaGreatDoor
open Go.RowKit Go.Lib
set_option maxRecDepth 8000
theorem strB_beq (a b : List UInt8) : (strB a == strB b) = (a == b):=by
  show ((strB a).data == (strB b).data) = _
  simp [strB]
theorem dirR_len {es : List Ent} (hE : Ents es) : (dirR es).length ≤ 2000:=by
  unfold dirR
  split
  · rename_i h
    obtain ⟨h1,h2⟩:=dirE_zero h
    have:=dirTo_len hE h1 es.length
    rw [dirTo_all] at this
    omega
  · simp
end Go.Proofs.YthkdkmaacjpneaaGreatDoor
namespace Go.Proofs.YthkdkmaacjpneaaGreatDoor
open Go.RowKit Go.Lib
theorem prefix_spec (l p : List UInt8) (F : HP) : CallsS Tryz.prog 60 #[sV l,sV p] F [] (fun v Ps => v = .bool (p.isPrefixOf l) ∧ Ps = []) :=
  callsS_same fun w => by
    have:=Any.strings_HasPrefix lays99 (strB l) (strB p) w
    rw [strB_dataL,strB_dataL] at this
    exact this
theorem suffix_spec (l p : List UInt8) (hl : l.length ≤ 9223372036854775807) (F : HP) : CallsS Tryz.prog 61 #[sV l,sV p] F [] (fun v Ps => v = .bool (p.isSuffixOf l) ∧ Ps = []) :=
  callsS_same fun w => by
    have:=Any.strings_HasSuffix lays100 (strB l) (strB p) w (by rw [strB_size]; exact hl)
    rw [strB_dataL,strB_dataL] at this
    exact this
theorem splitK_miss (k : Nat) (s : List UInt8) (h : index s [47] = -1) : splitK [47] 0 k s = [s]:=by
  cases k with
  | zero => rfl
  | succ k => simp [splitK,h]
theorem splitK_hit (k i : Nat) (s : List UInt8) (h : index s [47] = (i : Int)) : splitK [47] 0 (k + 1) s = s.take i :: splitK [47] 0 k (s.drop (i + 1)):=by
  have : ¬ (index s [47] == -1) = true:=fun e => by have:=beq_iff_eq.1 e; omega
  simp only [splitK]
  rw [if_neg this,h]
  simp
theorem splitL_lib (s : List UInt8) : splitK [47] 0 (count s [47]) s = splitL s:=by
  induction s with
  | nil => simp [splitL]; exact splitK_miss _ _ (by simp [index])
  | cons b l ih =>
    by_cases hb : b = 47
    · subst hb
      have h0 : index (47 :: l) [47] = ((0 : Nat) : Int):=by simp [index]
      rw [count_hit (by simp) h0,Nat.add_comm,splitK_hit _ 0 _ h0]
      simp [splitL,ih]
    · have hp : ([47] : List UInt8).isPrefixOf (b :: l) = false:=by simp [List.isPrefixOf]; exact fun h => hb h.symm
      rcases index_spec l [47] with ⟨hm,_⟩ | ⟨i,hi,_⟩
      · have h1 : index (b :: l) [47] = -1:=by simp [index,hp,hm]
        rw [splitK_miss _ _ h1]
        rw [splitK_miss _ _ hm] at ih
        simp [splitL,hb,← ih]
      · have h1 : index (b :: l) [47] = ((i + 1 : Nat) : Int):=by
          unfold index
          rw [if_neg (by simp [hp]),if_neg (by rw [hi]; simp),hi]
          simp
        rw [count_hit (by simp) h1,Nat.add_comm,splitK_hit _ _ _ h1]
        rw [count_hit (by simp) hi,Nat.add_comm,splitK_hit _ _ _ hi] at ih
        have hd : (b :: l).drop (i + 1 + ([47] : List UInt8).length) = l.drop (i + ([47] : List UInt8).length):=by
          rw [show i + 1 + ([47] : List UInt8).length = (i + ([47] : List UInt8).length) + 1 by omega,List.drop_succ_cons]
        rw [hd]
        simp only [splitL,if_neg hb,← ih]
        simp
theorem split_spec (l : List UInt8) (hl : l.length < 4294967281) (F : HP) (hF : ∀ h,F h → tabsP h) : CallsS Tryz.prog 62 #[sV l,sV [47]] F [] (fun v Ps => Ps = [rowS 9 v (splitL l)]):=fun E w hS => by
  have hr : look (En 0 [F]) 0 = some F:=rfl
  obtain ⟨h,hp,hi⟩:=hS.read hr
  obtain ⟨_,m,hm⟩:=hF h hp w hi
  have hpieces : ((splitB (strB [47]) 0 (countB (strB l) (strB [47])) (strB l)).map Value.string) = ss (splitL l):=by
    have h1:=splitB_data (strB [47]) 0 (countB (strB l) (strB [47])) (strB l)
    have hc : countB (strB l) (strB [47]) = count l [47]:=by unfold countB; rw [strB_dataL,strB_dataL]
    rw [strB_dataL,strB_dataL,hc,splitL_lib] at h1
    rw [hc]
    unfold ss
    rw [← h1,List.map_map]
    apply List.map_congr_left
    intro x _
    simp only [Function.comp,sV]
    rw [← strB_data]
  have hlen : countB (strB l) (strB [47]) + 1 = (splitL l).length:=by
    have:=congrArg List.length hpieces
    rw [List.length_map,ss_length] at this
    rw [← this]
    exact (splitB_all (strB [47]) (by rw [strB_size]; simp) 0 _ (strB l) rfl).symm
  refine (Any.strings_Split lays146 (by kernel_rfl) (strB l) (strB [47]) m w (by rw [strB_size]; exact hl) hm (by rw [strB_size]; simp)).mono fun e w' ⟨he,hw⟩ => ?_
  rw [hpieces] at hw
  rw [hlen] at he
  subst hw
  refine ⟨_,_,he,rfl,?_⟩
  have hsl:=splitL_len l
  have hown : (w.alloc (.cells (ss (splitL l)).toArray (ren.t 9))).ownsRow 0 9 1 (.slice (some ⟨w.heap.size,0,none⟩) (splitL l).length (splitL l).length) (splitL l).length (ss (splitL l)) :=
    ⟨by rw [ss_length,Nat.mul_one],.inr ⟨w.heap.size,_,_,rfl,Nat.zero_le _,heap_alloc_new w _,Nat.le_refl _,by unfold maxLen; omega,by rw [List.size_toArray,ss_length,Nat.mul_one],by rw [List.toList_toArray,Nat.mul_one]; exact List.take_of_length_le (by rw [ss_length]; exact Nat.le_refl _)⟩⟩
  obtain ⟨h',c1,c2,c3⟩:=rowP_of_own hown
  have hch : Chg [] w (w.alloc (.cells (ss (splitL l)).toArray (ren.t 9))):=⟨rfl,rfl,rfl,by simp,fun k hk _ => heap_alloc_old w _ hk⟩
  refine hS.new 1 hch h' c1 c2 (fun g hg => ?_) |>.sub ?_
  · have:=c3 g hg
    simp [Value.ownBlock] at this
    omega
  · intro r P h
    simp only [En] at h
    by_cases h0 : 0 = r
    · subst h0; rw [look_same] at h; rw [look_other (by omega)]; exact h
    · rw [look_other h0] at h
      by_cases h1 : 1 = r
      · subst h1; rw [look_same] at h ⊢; exact h
      · rw [look_other h1] at h; cases h
end Go.Proofs.YthkdkmaacjpneaaGreatDoor
namespace Go.Proofs.YthkdkmaacjpneaaGreatDoor
open Go.RowKit Go.Lib
set_option maxRecDepth 8000

theorem all_spec (v : Value) (ls : List (List UInt8)) (hlen : ∀ x ∈ ls,x.length ≤ 140737488355328) (F : HP) (hF : ∀ h,F h → rdS v ls h) (hT : ∀ h,F h → tabsP h) : CallsS Tryz.prog 63 #[v] F [] (fun r Ps => r = .int .i64 (allN ls : Int) ∧ Ps = []):=by
 refine callsS_enter Tryz.func63 rfl Tryz.ntmps63 (by simp) (fun E => ?_)
 refine Q9 (R9 (G9 rfl rfl (N9 (X9 (Q9 (Q9 (R9 (M9 rfl rfl (L9 rfl (Pl9 (r:=0) rfl Tryz.runUnderlying63 rfl rfl hF) (L9 rfl (Pn9 rfl rfl rfl (run_gtr _ _ _ _ _ _)) (N9 (X9 ?_))))))))))))
 refine C9 rfl (fun hc8 => ?_) (fun hc8 => ?_)
 ·
  have h5:=of_decide_eq_true hc8
  refine Q9 (R9 (G9 rfl rfl (N9 (X9 ?_))))
  refine W_ret (X_then_ret ?_)
  exact Xq9 [] (Ps:=[]) (res1 Tryz.results63 rfl) rfl (by decide) ⟨by unfold allN; rw [if_pos (by omega)]; rfl,rfl⟩
 ·
  have h5:=of_decide_eq_false hc8
  refine K9 (X9 ?_)
  refine Q9 (Q9 (R9 (M9 rfl rfl (L9 rfl (Pl9 (r:=0) rfl Tryz.runUnderlying63 rfl rfl hF) (M9 rfl rfl (N9 (X9 ?_)))))))
  refine W_block ?_
  refine W_loop (α:=Nat) (fun i => [(9,v),(10,.int .i64 (ls.length : Int)),(11,.int .i64 (i : Int))]) (fun i => [(0,F)]) (fun i => i ≤ ls.length ∧ firstBad (ls.drop i) = firstBad ls) (fun i => ls.length - i) (0) ⟨Nat.zero_le _,rfl⟩ (a9 rfl) ⟨rfl,trivial⟩ (fun x hx => ?_)
  obtain ⟨hxl,hfb⟩:=hx
  refine Q9 (R9 (L9 rfl (Pn9 rfl rfl rfl (run_lss _ _ _ _ _ _)) (N9 (X9 (Q9 ?_)))))
  refine C9 rfl (fun hc12 => ?_) (fun hc12 => ?_)
  ·
   have hlt : x < ls.length:=by have:=of_decide_eq_true hc12; omega
   refine K9 (X9 ?_)
   refine Q9 ?_
   refine W_block ?_
   refine Q9 (R9 (L9 rfl (Pu_idxS1 (r:=0) rfl Tryz.runUnderlying63 Tryz.sizeOf9 rfl rfl rfl hF (by omega)) (L9 rfl (Py9 (r:=0) rfl Tryz.isAgg9 rfl rfl hF (ss_at hlt)) (G9 rfl rfl (N9 (X9 (Q9 (R9 (M9 rfl rfl (Lc9 rfl rfl (by decide) (Oc9 200 [0] [] rfl Tryz.call90 rfl rfl rfl (by decide) (by decide) (check_spec (ls.getD x []) (hlen _ (getD_mem hlt)) _ (ts9 0 rfl hT)) (fun v16 Ps16 hR16 => ?_))))))))))))
   obtain ⟨rfl,rfl⟩:=hR16
   refine (G9 rfl rfl (N9 (X9 ?_)))
   refine Q9 (R9 (M9 rfl rfl (L9 rfl (Pn9 rfl rfl rfl (run_neq _ _ _ _ _ _)) (N9 (X9 ?_)))))
   refine C9 rfl (fun hc18 => ?_) (fun hc18 => ?_)
   ·
    have hbad : ¬ (checkN (ls.getD x []) : Int) = 0:=by simpa using hc18
    refine Q9 (R9 (M9 rfl rfl (G9 rfl rfl (N9 (X9 ?_)))))
    refine W_ret (X_block_ret (X_then_ret (X_then_ret (X_block_ret (X_then_ret ?_)))))
    exact Xq9 [] (Ps:=[]) (res1 Tryz.results63 rfl) rfl (by decide) ⟨by unfold allN; rw [if_neg (by omega),← hfb,firstBad_bad hlt hbad],rfl⟩
   ·
    have hgood : (checkN (ls.getD x []) : Int) = 0:=by simpa using hc18
    refine K9 (X_block (X9 ?_))
    refine R9 (L9 rfl (Pn9 rfl rfl rfl (run_add _ _ _ _ _ (by omega))) (M9 rfl rfl (N9 ?_)))
    exact Xr9 (x + 1) ⟨hlt,by rw [← hfb,firstBad_good hlt hgood]⟩ (by omega) (a9 rfl) ⟨rfl,trivial⟩
  ·
   have hge : ls.length ≤ x:=by have:=of_decide_eq_false hc12; omega
   refine W_exit (X_then_exit (X_then_exit (X_block_exit (X9 ?_))))
   refine Q9 (R9 (G9 rfl rfl (N9 (X9 ?_))))
   refine W_ret ?_
   exact Xq9 [] (Ps:=[]) (res1 Tryz.results63 rfl) rfl (by decide) ⟨by unfold allN; rw [if_neg (by omega),← hfb,firstBad_end hge]; rfl,rfl⟩
theorem split_nspec (l : List UInt8) (hl : l.length < 4294967281) (F : HP) (hT : ∀ h,F h → tabsP h) : CallsS Tryz.prog 36 #[sV l] F [] (fun r Ps => ∃ v,r = .tuple #[v,.int .i64 ((splitN l).2 : Int)] ∧ Ps = [rowS 9 v (splitN l).1]):=by
 refine callsS_enter Tryz.func36 rfl Tryz.ntmps36 (by simp) (fun E => ?_)
 refine Q9 (R9 (G9 rfl rfl (G9 rfl rfl (N9 (X9 (Q9 (Q9 (R9 (M9 rfl rfl (L9 rfl (Pn9 rfl rfl rfl (run_strEq _ _ _ _ _)) (N9 (X9 ?_))))))))))))
 refine C9 rfl (fun hc7 => ?_) (fun hc7 => ?_)
 ·
  have h1 : l = [47]:=by simpa using hc7
  refine Q9 (R9 (G9 rfl rfl (G9 rfl rfl (N9 (X9 ?_)))))
  refine W_ret (X_then_ret ?_)
  have hs : splitN l = ([],0):=by unfold splitN; rw [if_pos h1]
  refine X_nilRow 9900 9 1 ?_
  exact Xq9 [9900] (Ps:=[_]) (res2 Tryz.results36 rfl rfl) rfl (by decide) ⟨_,by rw [hs] <;> rfl,by rw [hs] <;> rfl⟩
 ·
  have h1 : ¬ l = [47]:=by simpa using hc7
  refine K9 (X9 ?_)
  refine Q9 (Q9 ?_)
  rcases Bool.eq_false_or_eq_true ((!([47] : List UInt8).isPrefixOf l)) with hsp3 | hsp3
  ·
   have hnp : noPath l = true:=by unfold noPath; rw [hsp3]; rfl
   refine R9 (M9 rfl rfl (Lc9 rfl rfl (by decide) (Oc9 200 [0] [] rfl Tryz.call60 rfl rfl rfl (by decide) (by decide) (prefix_spec l [47] _) (fun v9 Ps9 hR9 => ?_))))
   obtain ⟨rfl,rfl⟩:=hR9
   refine (L9 rfl (Pu_un rfl rfl (run_not _)) (M9 rfl rfl (WL_gF rfl rfl rfl (by rw [hsp3]; rfl) rfl (by decide) (WL_gF rfl rfl rfl (by rw [hsp3]; rfl) rfl (by decide) (L9 rfl (Pu_pickT rfl rfl hsp3 rfl) (N9 (X9 ?_)))))))
   refine W_true rfl (rfl) ?_
   refine Q9 (R9 (G9 rfl rfl (G9 rfl rfl (N9 (X9 ?_)))))
   refine W_ret (X_then_ret ?_)
   have hs : splitN l = ([],10):=by unfold splitN; rw [if_neg h1,if_pos hnp]
   refine X_nilRow 9900 9 1 ?_
   exact Xq9 [9900] (Ps:=[_]) (res2 Tryz.results36 rfl rfl) rfl (by decide) ⟨_,by rw [hs] <;> rfl,by rw [hs] <;> rfl⟩
  ·
   have hnq : noPath l = ([47] : List UInt8).isSuffixOf l:=by unfold noPath; rw [hsp3]; rfl
   refine R9 (M9 rfl rfl (Lc9 rfl rfl (by decide) (Oc9 200 [0] [] rfl Tryz.call60 rfl rfl rfl (by decide) (by decide) (prefix_spec l [47] _) (fun v9 Ps9 hR9 => ?_))))
   obtain ⟨rfl,rfl⟩:=hR9
   refine (L9 rfl (Pu_un rfl rfl (run_not _)) (M9 rfl rfl (WL_gPT rfl rfl rfl (by rw [hsp3]; rfl) rfl (by decide) (Pm9 rfl rfl) (WL_gT rfl rfl rfl (by rw [hsp3]; rfl) rfl (by decide) (Oc9 300 [0] [] rfl Tryz.call61 rfl rfl rfl (by decide) (by decide) (suffix_spec l [47] (by omega) _) (fun v13 Ps13 hR13 => ?_))))))
   obtain ⟨rfl,rfl⟩:=hR13
   refine (L9 rfl (Pu_pickF rfl rfl hsp3 rfl) (N9 (X9 ?_)))
   refine C9 rfl (fun hc14 => ?_) (fun hc14 => ?_)
   ·
    have hnp : noPath l = true:=hnq.trans hc14
    refine Q9 (R9 (G9 rfl rfl (G9 rfl rfl (N9 (X9 ?_)))))
    refine W_ret (X_then_ret ?_)
    have hs : splitN l = ([],10):=by unfold splitN; rw [if_neg h1,if_pos hnp]
    refine X_nilRow 9900 9 1 ?_
    exact Xq9 [9900] (Ps:=[_]) (res2 Tryz.results36 rfl rfl) rfl (by decide) ⟨_,by rw [hs] <;> rfl,by rw [hs] <;> rfl⟩
   ·
    have hnp : noPath l = false:=hnq.trans hc14
    refine K9 (X9 ?_)
    refine Q9 ?_
    have hpos : 1 ≤ l.length:=by rcases l with _ | ⟨c,l⟩; exact absurd hnp (by simp [noPath_nil]); simp
    refine R9 (M9 rfl rfl (L9 rfl (Pu_sliceStrE (a:=1) rfl Tryz.underlying9 rfl (.inr ⟨_,_,_,rfl,rfl,rfl⟩) (.inl ⟨rfl,rfl⟩) (by omega) (Nat.le_refl _) (take_rest _ _)) (Lc9 rfl rfl (by decide) (Oc9 400 [0] [] rfl Tryz.call62 rfl rfl rfl (by decide) (by decide) (split_spec (l.drop 1) (by simp; omega) _ (ts9 0 rfl hT)) (fun v17 Ps17 hR17 => ?_)))))
    subst hR17
    refine (G9 rfl rfl (N9 (X9 ?_)))
    refine Q9 (Q9 (R9 (M9 rfl rfl (Lc9 rfl rfl (by decide) (Oc9 500 [0,400] [] rfl Tryz.call63 rfl rfl rfl (by decide) (by decide) (all_spec v17 (splitL (l.drop 1)) (fun x hx => by have:=splitL_mem hx; simp at this; omega) _ (rs9 1 rfl rowS_rd) (ts9 0 rfl hT)) (fun v19 Ps19 hR19 => ?_))))))
    obtain ⟨rfl,rfl⟩:=hR19
    refine (G9 rfl rfl (N9 (X9 ?_)))
    refine Q9 (R9 (M9 rfl rfl (L9 rfl (Pn9 rfl rfl rfl (run_neq _ _ _ _ _ _)) (N9 (X9 ?_)))))
    refine C9 rfl (fun hc21 => ?_) (fun hc21 => ?_)
    ·
     have h3 : ¬ allN (splitL (l.drop 1)) = 0:=by simpa using hc21
     refine Q9 (R9 (M9 rfl rfl (G9 rfl rfl (G9 rfl rfl (N9 (X9 ?_))))))
     refine W_ret (X_then_ret ?_)
     have hs : splitN l = ([],allN (splitL (l.drop 1))):=by unfold splitN; rw [if_neg h1,if_neg (by simp [hnp]),if_pos h3]
     refine X_nilRow 9900 9 1 ?_
     exact Xq9 [9900] (Ps:=[_]) (res2 Tryz.results36 rfl rfl) rfl (by decide) ⟨_,by rw [hs] <;> rfl,by rw [hs] <;> rfl⟩
    ·
     have h3 : allN (splitL (l.drop 1)) = 0:=by simpa using hc21
     refine K9 (X9 ?_)
     refine Q9 (R9 (M9 rfl rfl (G9 rfl rfl (G9 rfl rfl (N9 (X9 ?_))))))
     refine W_ret ?_
     have hs : splitN l = (splitL (l.drop 1),0):=by unfold splitN; rw [if_neg h1,if_neg (by simp [hnp]),if_neg (fun hc => hc h3)]
     exact Xq9 [400] (Ps:=[_]) (res2 Tryz.results36 rfl rfl) rfl (by decide) ⟨_,by rw [hs] <;> rfl,by rw [hs]⟩
end Go.Proofs.YthkdkmaacjpneaaGreatDoor
