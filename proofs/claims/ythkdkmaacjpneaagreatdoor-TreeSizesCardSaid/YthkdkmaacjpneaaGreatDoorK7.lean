/- Texts of this proof, one behind the other: TreeLn, TreePp, TreeSz, TreeMt, TreeBA, TreeBB, TreeBD, TreeBE, TreeAC, TreePq, TreeSq, Open, Open2, Open3, Open4, TreeSr, LaidN. -/
import Derived.Test.YthkdkmaacjpneaaGreatDoorK6
import Derived.Test.YthkdkmaacjpneaaGreatDoorK2
import Derived.Test.YthkdkmaacjpneaaGreatDoorK5
import Derived.Test.YthkdkmaacjpneaaGreatDoorK3
import Derived.Test.YthkdkmaacjpneaaGreatDoorK1
import Derived.ProofKit
import Derived.Deep.Slices
import Derived.Deep.Fields
import Derived.ChangeOld
import Derived.OpenShut
import Derived.SizedLaws
import Derived.ChangeMaps5
import Derived.Test.YthkdkmaacjpneaaGreatDoorRows
import Derived.Lib.LaidU8
import Derived.Shelf.Vars
import Derived.MakeChecks
set_option linter.unusedVariables false
set_option linter.unusedSimpArgs false
set_option linter.unusedSectionVars false
namespace Go.Proofs.YthkdkmaacjpneaaGreatDoor
open Go.RowKit
theorem sub_len {α : Type} : ∀ {l m : List α},l.Nodup → (∀ x ∈ l,x ∈ m) → l.length ≤ m.length
  | [],m,_,_ => Nat.zero_le _
  | x :: l,m,hn,hs => by
    obtain ⟨a,b,rfl⟩:=List.append_of_mem (hs x (by simp))
    rw [List.nodup_cons] at hn
    have:=sub_len (l:=l) (m:=a ++ b) hn.2 fun y hy => by
      rcases List.mem_append.1 (hs y (by simp [hy])) with h | h
      · simp [h]
      · rcases List.mem_cons.1 h with rfl | h
        · exact absurd hy hn.1
        · simp [h]
    simp only [List.length_cons,List.length_append] at this ⊢
    omega
theorem innerR_lem {l : List (List UInt8)} (hl : Ids l) : (innerR l).length ≤ 1000:=by
  unfold innerR
  split
  · rename_i h
    have h8 : l.length ≤ 8:=by
      unfold innerE at h
      split at h
      · omega
      · split at h
        · omega
        · omega
    unfold innerTo
    rw [List.take_length,List.length_append,flat_ids hl]
    simp
    omega
  · simp
theorem above_small_b : ∀ (f : Nat) (l : List (List UInt8)),Ids l → ∀ b ∈ (above f l).1,b.length ≤ 1000
  | 0,l,_,b,hb => by rw [above] at hb; cases hb
  | f + 1,l,hl,b,hb => by
    by_cases h1 : 1 < l.length
    · rw [above_big h1] at hb
      rcases List.mem_append.1 hb with hb | hb
      · unfold rowsI at hb
        obtain ⟨j,_,rfl⟩:=List.mem_map.1 hb
        exact innerR_lem fun x hx => hl x (List.mem_of_mem_drop (List.mem_of_mem_take hx))
      · exact above_small_b f _ (ids_sha _) b hb
    · rw [above_small h1] at hb
      cases hb
theorem above_ids : ∀ (f : Nat) (l : List (List UInt8)),Ids l → Ids (above f l).2.2
  | 0,l,h => h
  | f + 1,l,h => by
    by_cases hb : 1 < l.length
    · rw [above_big hb]; exact above_ids f _ (ids_sha _)
    · rw [above_small hb]; exact h
theorem topF_len32 (d : List UInt8) : (topF d).length = 32:=by
  have h:=above_ids (d.length + 1) ((rowsD d).map sha) (ids_sha _)
  unfold topF aboveD
  cases ht : (above (d.length + 1) ((rowsD d).map sha)).2.2 with
  | nil => exact zeroId_length
  | cons x r => rw [ht] at h; exact h x (by simp)
theorem blocksF_small {k : Int} {d b : List UInt8} (hb : b ∈ blocksF k d) : b.length ≤ 1000:=by
  unfold blocksF at hb
  rcases List.mem_append.1 hb with hb | hb
  · rcases List.mem_append.1 hb with hb | hb
    · unfold rowsD at hb
      obtain ⟨j,_,rfl⟩:=List.mem_map.1 hb
      unfold blkD
      rw [List.length_cons,List.length_take]
      omega
    · exact above_small_b _ _ (ids_sha _) b hb
  · rw [List.mem_singleton.1 hb]
    have:=inodeR_len k (d.length : Int) ((aboveD d).2.1 : Int) (topF d) (by rw [topF_len32])
    unfold nodeF
    omega
mutual
theorem blocksT_small : ∀ (T : HT) (b : List UInt8),b ∈ blocksT T → b.length ≤ 1000
  | .mk _ _ _ dirs files,b,hb => by
    rw [blocksT] at hb
    rcases List.mem_append.1 hb with hb | hb
    · rcases List.mem_append.1 hb with hb | hb
      · unfold fileBs at hb
        rw [List.mem_flatten] at hb
        obtain ⟨l,hl,hbl⟩:=hb
        obtain ⟨x,_,rfl⟩:=List.mem_map.1 hl
        exact blocksF_small hbl
      · exact blocksDs_small dirs b hb
    · exact blocksF_small hb
theorem blocksDs_small : ∀ (ds : List (List UInt8 × HT)) (b : List UInt8),b ∈ blocksDs ds → b.length ≤ 1000
  | [],b,hb => by rw [blocksDs] at hb; cases hb
  | d :: ds,b,hb => by
    rw [blocksDs] at hb
    rcases List.mem_append.1 hb with hb | hb
    · exact blocksT_small d.2 b hb
    · exact blocksDs_small ds b hb
end
theorem buildE_wrong {xs : List F3} (h : buildE xs = 0) : xs.length ≤ 20 ∧ ∀ x ∈ xs,wrongI x.1 x.2.2 = 0:=by
  unfold buildE at h
  split at h
  · cases h
  · split at h
    · rename_i h1 h2; exact absurd h h2
    · rename_i h1 h2
      exact ⟨by omega,firstW_zero (by cases hh : decide (firstW xs = 0) with
        | true => exact of_decide_eq_true hh
        | false => exact absurd (of_decide_eq_false hh) h2)⟩
theorem parts_ok {xs : List F3} (h : buildE xs = 0) : (partsN xs).length ≤ 20 ∧ (∀ p ∈ partsN xs,p.2.length ≤ 1000 ∧ p.1.length ≤ 5):=by
  obtain ⟨h1,h2⟩:=buildE_wrong h
  refine ⟨by unfold partsN; rw [List.length_map]; exact h1,fun p hp => ?_⟩
  unfold partsN at hp
  obtain ⟨x,hx,rfl⟩:=List.mem_map.1 hp
  obtain ⟨h3,_,h5⟩:=wrongI_zero (h2 x hx)
  exact ⟨h5,splitN_five h3⟩
theorem tree_len {xs : List F3} {T : HT} (hf : Filled xs T) (h : buildE xs = 0) {l : List TB} (ht : TreeOf (blocksT T) l) : l.length ≤ bnd 5:=by
  obtain ⟨h1,h2⟩:=parts_ok h
  have hr:=rel_dir 4 T _ hf.rel (fun p hp => (h2 p hp).2)
  have hn : (l.map (·.1)).Nodup:=by
    have:=ht.sorted
    refine List.Pairwise.map _ (fun a b hab => ?_) this
    intro hc
    rw [hc,ltK_irrefl] at hab
    cases hab
  have hl:=sub_len (m:=(dirI 5 (partsN xs)).2.map sha) hn fun k hk => by
    obtain ⟨p,hp,rfl⟩:=List.mem_map.1 hk
    obtain ⟨h3,h4,_⟩:=ht.from_ p hp
    rw [h3]
    exact List.mem_map_of_mem (hr.2 _ h4)
  rw [List.length_map,List.length_map] at hl
  exact Nat.le_trans hl (dirI_le 5 _ h1 fun p hp => by have:=(h2 p hp).1; omega)
theorem tree_small {xs : List F3} {T : HT} (hf : Filled xs T) (h : buildE xs = 0) (hxl : xs.length ≤ 20) (hxs : Short3 xs) {l : List TB} (ht : TreeOf (blocksT T) l) {es : List EB} (he : es.map toTB = l) : es.length ≤ 1000000000000 ∧ ∀ b ∈ es,b.2.length ≤ 1000000000:=by
  refine ⟨?_,fun b hb => ?_⟩
  · have h1:=tree_len hf h ht
    have h2:=congrArg List.length he
    rw [List.length_map] at h2
    have h3 : bnd 5 ≤ 1000000000000:=by decide
    omega
  · have : toTB b ∈ l:=by rw [← he]; exact List.mem_map_of_mem hb
    have h3:=(ht.from_ _ this).2.1
    have:=blocksT_small T _ h3
    show (toTB b).2.1.length ≤ _
    omega
open Go.RowKit
theorem splitN_zero {p : List UInt8} (h : (splitN p).2 = 0) (hne : p ≠ [47]) : noPath p = false ∧ allN (splitL (p.drop 1)) = 0 ∧ (splitN p).1 = splitL (p.drop 1):=by
  unfold splitN at h ⊢
  rw [if_neg hne] at h ⊢
  split at h
  · cases h
  · rename_i h1
    split at h
    · rename_i h2; exact absurd h h2
    · rename_i h2
      rw [if_neg h1,if_neg h2]
      exact ⟨by simpa using h1,Classical.byContradiction h2,rfl⟩
theorem parts_good {xs : List F3} (h : buildE xs = 0) : PsGood (partsN xs):=by
  obtain ⟨h1,h2⟩:=buildE_wrong h
  refine ⟨by unfold partsN; rw [List.length_map]; exact h1,fun p hp n hn => ?_,fun p hp => ((parts_ok h).2 p hp).1⟩
  unfold partsN at hp
  obtain ⟨x,hx,rfl⟩:=List.mem_map.1 hp
  obtain ⟨h3,h4,_⟩:=wrongI_zero (h2 x hx)
  by_cases hne : x.1 = [47]
  · have : pathOf x = []:=by unfold pathOf splitN; rw [if_pos hne]
    exact absurd this h4
  · obtain ⟨_,a2,a3⟩:=splitN_zero h3 hne
    have hn' : n ∈ splitL (x.1.drop 1):=by rw [← a3]; exact hn
    unfold allN at a2
    split at a2
    · cases a2
    · exact firstBad_zero a2 n hn'
structure Whole3 (xs : List F3) (T : HT) (V : VW) : Prop where
  rel : Rel T (partsN xs)
  good : PsGood (partsN xs)
  has : HasT V T
theorem whole3 {xs : List F3} {T : HT} {l : List TB} (hb : buildE xs = 0) (hf : Filled xs T) (ht : TreeOf (blocksT T) l) (hm : (putsT ([],false) (dirI 5 (partsN xs)).2).2 = false) : Whole3 xs T (viewT l):=by
  have hrd:=rel_dir 4 T _ hf.rel (fun p hp => ((parts_ok hb).2 p hp).2)
  exact ⟨hf.rel,parts_good hb,fun b hbm => viewT_built ht ((putsT_apart hm).sub hrd.2) hbm⟩
section
variable {xs : List F3} {T : HT} {V : VW} (hw : Whole3 xs T V) (hb : buildE xs = 0) (hs : Short3 xs) {x : F3} (hx : x ∈ xs)
include hw hb hs hx
theorem part_mem : (pathOf x,x.2.2) ∈ partsN xs:=List.mem_map_of_mem (f:=fun x : F3 => (pathOf x,x.2.2)) hx
theorem path_file : (splitN x.1).2 = 0 ∧ pathV V (idT T) x.1 = (ndF 1 x.2.2,0):=by
  obtain ⟨h3,_,_⟩:=wrongI_zero ((buildE_wrong hb).2 x hx)
  refine ⟨h3,?_⟩
  rw [pathV_T hw.rel hw.good hw.has,if_neg (fun h => h h3)]
  have:=findT_part (pathOf x) x.2.2 T _ hw.rel (part_mem hw hb hs hx) []
  rw [List.append_nil,if_pos rfl] at this
  exact this
end
def nobody : List UInt8:=[110,111,98,111,100,121,32,104,101,114,101]
open Go.RowKit
def dS (n : Nat) : List UInt8:=(List.range n).map fun i => if i % 64 = 0 then byte ((i / 64 : Nat) : Int) else byte ((i % 64 : Nat) : Int)
theorem dS_length (n : Nat) : (dS n).length = n:=by simp [dS]
theorem dS_at {n i : Nat} (h : i < n) : (dS n)[i]? = some (if i % 64 = 0 then byte ((i / 64 : Nat) : Int) else byte ((i % 64 : Nat) : Int)):=by simp [dS,h]
def upC : Nat → Nat → Nat
  | 0,_ => 0
  | f + 1,n => if 1 < n then (n + 7) / 8 + upC f ((n + 7) / 8) else 0
theorem above_count : ∀ (f : Nat) (l : List (List UInt8)),(above f l).1.length = upC f l.length
  | 0,l => rfl
  | f + 1,l => by
    rw [upC]
    by_cases h : 1 < l.length
    · rw [above_big h,if_pos h]
      show (rowsI l ++ _).length = _
      rw [List.length_append,rowsI_length,above_count f,List.length_map,rowsI_length]
    · rw [above_small h,if_neg h]
      rfl
theorem innerR_inj {a b : List (List UInt8)} (ha : Ids a) (hb : Ids b) (h1 : innerE a = 0) (h2 : innerE b = 0) (h : innerR a = innerR b) : a = b:=by
  have e1:=(parse_inner ha h1).2
  have e2:=(parse_inner hb h2).2
  rw [← e1,← e2,h]
theorem blk_ne {d : List UInt8} {j k : Nat} (h : at0 (blkD d j) 1 ≠ at0 (blkD d k) 1) : blkD d j ≠ blkD d k:=fun hc => h (by rw [hc])
theorem byte_inj {a b : Nat} (ha : a < 256) (hb : b < 256) (h : byte (a : Int) = byte (b : Int)) : a = b:=by
  have h1:=byte_small (n:=(a : Int)) (by omega) (by omega)
  have h2:=byte_small (n:=(b : Int)) (by omega) (by omega)
  rw [h] at h1
  omega
theorem row_at1 {n j : Nat} (h : j * 64 < n) : at0 (blkD (dS n) j) 1 = byte ((j : Nat) : Int):=by
  unfold blkD
  have e : (100 :: ((dS n).drop (j * 64)).take 64 : List UInt8)[1]? = some (byte ((j : Nat) : Int)):=by
    rw [List.getElem?_cons_succ,List.getElem?_take_of_lt (by decide),List.getElem?_drop,Nat.add_zero,dS_at h]
    rw [if_pos (by omega),Nat.mul_div_cancel _ (by decide)]
  simp only [at0]
  rw [List.getD_eq_getElem?_getD,e]
  rfl
theorem rowsD_nodup {n : Nat} (hn : n ≤ 1000) : (rowsD (dS n)).Nodup:=by
  unfold rowsD
  rw [dS_length]
  refine List.Pairwise.map _ (R:=fun a b => a < b ∧ b < (n + 63) / 64) (fun a b hab => ?_) ?_
  · refine blk_ne ?_
    rw [row_at1 (by omega),row_at1 (by omega)]
    intro hc
    have:=byte_inj (by omega) (by omega) hc
    omega
  · refine List.pairwise_iff_getElem.2 fun i j hi hj hij => ?_
    rw [List.getElem_range,List.getElem_range]
    rw [List.length_range] at hj
    exact ⟨hij,hj⟩
theorem rows_head {d b : List UInt8} (h : b ∈ rowsD d) : b.head? = some 100:=by
  unfold rowsD at h
  obtain ⟨j,_,rfl⟩:=List.mem_map.1 h
  rfl
theorem innerR_head {l : List (List UInt8)} (h : innerE l = 0) : (innerR l).head? = some 110:=by
  unfold innerR
  rw [if_pos h]
  unfold innerTo
  rfl
theorem nodeF_head {k : Int} {d : List UInt8} (hk : k = 1 ∨ k = 2) (hd : d.length ≤ 4096) : (nodeF k d).head? = some 105:=by
  unfold nodeF inodeR
  rw [if_pos (node_wrong hk hd)]
  rfl
theorem innerE_len {l : List (List UInt8)} (h1 : 1 ≤ l.length) (h8 : l.length ≤ 8) : innerE l = 0:=by
  unfold innerE
  rw [if_neg (by omega),if_neg (by omega)]
theorem chunk_len {l : List (List UInt8)} {j : Nat} : ((l.drop (j * 8)).take 8).length = min 8 (l.length - j * 8):=by rw [List.length_take,List.length_drop]
theorem above_nodup {rs : List (List UInt8)} (hr : rs.Nodup) (hh : ∀ b ∈ rs,b.head? = some 100) (h16 : rs.length ≤ 16) {f : Nat} (hap : Apart (rs ++ (above (f + 2) (rs.map sha)).1)) : (above (f + 2) (rs.map sha)).1.Nodup ∧ ∀ b ∈ (above (f + 2) (rs.map sha)).1,b.head? = some 110:=by
  have hl : (rs.map sha).length = rs.length:=List.length_map _
  by_cases h1 : 1 < rs.length
  · have hb1 : 1 < (rs.map sha).length:=by omega
    rw [above_big hb1] at hap ⊢
    by_cases h8 : rs.length ≤ 8
    · have e1 : rowsI (rs.map sha) = [blkI (rs.map sha) 0]:=by
        unfold rowsI
        rw [hl,show (rs.length + 7) / 8 = 1 by omega]
        rfl
      rw [e1] at hap ⊢
      rw [above_small (by simp)]
      refine ⟨by simp,fun b hb => ?_⟩
      simp at hb
      rw [hb]
      exact innerR_head (innerE_len (by rw [chunk_len,hl]; omega) (by rw [chunk_len]; omega))
    · have e1 : rowsI (rs.map sha) = [blkI (rs.map sha) 0,blkI (rs.map sha) 1]:=by
        unfold rowsI
        rw [hl,show (rs.length + 7) / 8 = 2 by omega]
        rfl
      rw [e1] at hap ⊢
      have hb2 : 1 < ([blkI (rs.map sha) 0,blkI (rs.map sha) 1].map sha).length:=by simp
      rw [above_big hb2] at hap ⊢
      have e2 : rowsI ([blkI (rs.map sha) 0,blkI (rs.map sha) 1].map sha) = [blkI ([blkI (rs.map sha) 0,blkI (rs.map sha) 1].map sha) 0]:=by
        unfold rowsI
        rw [List.length_map,List.length_cons,List.length_cons,List.length_nil,show (0 + 1 + 1 + 7) / 8 = 1 from by decide]
        rfl
      rw [e2] at hap ⊢
      rw [above_small (f:=f) (by simp)] at hap ⊢
      obtain ⟨b0,hb0⟩ : ∃ b0,b0 = blkI (rs.map sha) 0:=⟨_,rfl⟩
      obtain ⟨b1,hb1'⟩ : ∃ b1,b1 = blkI (rs.map sha) 1:=⟨_,rfl⟩
      rw [← hb0,← hb1'] at hap ⊢
      have i0 : Ids (((rs.map sha).drop (0 * 8)).take 8):=ids_take (ids_sha _) _ _
      have i1 : Ids (((rs.map sha).drop (1 * 8)).take 8):=ids_take (ids_sha _) _ _
      have l0 : (((rs.map sha).drop (0 * 8)).take 8).length = 8:=by rw [chunk_len,hl]; omega
      have l1 : (((rs.map sha).drop (1 * 8)).take 8).length = rs.length - 8:=by rw [chunk_len,hl]; omega
      have v0 : innerE (((rs.map sha).drop (0 * 8)).take 8) = 0:=innerE_len (by omega) (by omega)
      have v1 : innerE (((rs.map sha).drop (1 * 8)).take 8) = 0:=innerE_len (by omega) (by omega)
      have vt : innerE [sha b0,sha b1] = 0:=innerE_len (by simp) (by simp)
      have it : Ids [sha b0,sha b1]:=ids_sha [b0,b1]
      have ht : blkI ([b0,b1].map sha) 0 = innerR [sha b0,sha b1]:=rfl
      rw [ht] at hap ⊢
      have h0 : b0.head? = some 110:=by rw [hb0]; exact innerR_head v0
      have h1' : b1.head? = some 110:=by rw [hb1']; exact innerR_head v1
      have g0 : (((rs.map sha).drop (0 * 8)).take 8)[0]? = some (sha (rs[0]'(by omega))):=by
        rw [List.getElem?_take_of_lt (by decide),List.getElem?_drop,List.getElem?_map,List.getElem?_eq_getElem (by omega)]
        rfl
      have g1 : (((rs.map sha).drop (1 * 8)).take 8)[0]? = some (sha (rs[8]'(by omega))):=by
        rw [List.getElem?_take_of_lt (by decide),List.getElem?_drop,List.getElem?_map,List.getElem?_eq_getElem (by omega)]
        rfl
      have n01 : b0 ≠ b1:=fun hc => by
        rw [hb0,hb1'] at hc
        have:=innerR_inj i0 i1 v0 v1 hc
        rw [this,g1] at g0
        injection g0 with g0
        have:=hap _ (by simp) _ (by simp) g0
        exact (List.pairwise_iff_getElem.1 hr 0 8 (by omega) (by omega) (by decide)) this.symm
      have n0t : b0 ≠ innerR [sha b0,sha b1]:=fun hc => by
        have h2 : innerR (((rs.map sha).drop (0 * 8)).take 8) = innerR [sha b0,sha b1]:=by rw [← hc,hb0]; rfl
        have:=congrArg List.length (innerR_inj i0 it v0 vt h2)
        rw [l0] at this
        simp at this
      have n1t : b1 ≠ innerR [sha b0,sha b1]:=fun hc => by
        have h2 : innerR (((rs.map sha).drop (1 * 8)).take 8) = innerR [sha b0,sha b1]:=by rw [← hc,hb1']; rfl
        have h3:=innerR_inj i1 it v1 vt h2
        rw [h3] at g1
        injection g1 with g1
        have:=hap b0 (by simp) _ (List.mem_append.2 (.inl (List.getElem_mem (by omega : 8 < rs.length)))) g1
        rw [this,hh _ (List.getElem_mem _)] at h0
        cases h0
      refine ⟨?_,fun b hb => ?_⟩
      · show [b0,b1,innerR [sha b0,sha b1]].Nodup
        simp [n01,n0t,n1t]
      · have hb : b = b0 ∨ b = b1 ∨ b = innerR [sha b0,sha b1]:=by simpa using hb
        rcases hb with rfl | rfl | rfl
        · exact h0
        · exact h1'
        · exact innerR_head vt
  · rw [above_small (by omega)]
    exact ⟨List.nodup_nil,fun b hb => by cases hb⟩
theorem tree_count {hist : List (List UInt8)} {l : List TB} (ht : TreeOf hist l) (hn : hist.Nodup) (ha : Apart hist) : l.length = hist.length:=by
  have hk : (l.map (·.1)).Nodup:=by
    refine List.Pairwise.map _ (fun a b hab => ?_) ht.sorted
    intro hc
    rw [hc,ltK_irrefl] at hab
    cases hab
  have hs : (hist.map sha).Nodup:=by
    refine List.pairwise_map.2 ?_
    refine List.Pairwise.imp_of_mem (fun {a b} h1 h2 h3 hc => h3 (ha a h1 b h2 hc)) hn
  have a1:=sub_len (m:=hist.map sha) hk fun k hk => by
    obtain ⟨p,hp,rfl⟩:=List.mem_map.1 hk
    obtain ⟨h3,h4,_⟩:=ht.from_ p hp
    rw [h3]
    exact List.mem_map_of_mem h4
  have a2:=sub_len (m:=l.map (·.1)) hs fun k hk => by
    obtain ⟨b,hb,rfl⟩:=List.mem_map.1 hk
    exact ht.all b hb
  rw [List.length_map,List.length_map] at a1 a2
  omega
def itS (v : Value) (n : Nat) : F3:=([47,102],v,dS n)
theorem split_f : splitN [47,102] = ([[102]],0):=by decide
theorem path_f (v : Value) (n : Nat) : pathOf (itS v n) = [[102]]:=by
  unfold pathOf itS
  rw [split_f]
theorem build_f (v : Value) {n : Nat} (hn : n ≤ 1000) : buildE [itS v n] = 0:=by
  have hw : wrongI (itS v n).1 (itS v n).2.2 = 0:=by
    show wrongI [47,102] (dS n) = 0
    unfold wrongI
    rw [split_f,if_neg (by decide),if_neg (by decide),if_neg (by rw [dS_length]; omega)]
  unfold buildE
  rw [if_neg (show ¬ 20 < [itS v n].length by simp)]
  have hf : firstW [itS v n] = 0:=by
    unfold firstW
    rw [hw,if_neg (by decide)]
    rfl
  rw [hf,if_neg (by decide),if_pos]
  rw [List.map_cons,List.map_nil,path_f]
  rfl
theorem filled_nil {T : HT} (h : Filled [] T) : ∃ g gd gf,T = .mk g gd gf [] []:=by
  generalize hl : ([] : List F3) = l at h
  cases h with
  | nil g gd gf => exact ⟨g,gd,gf,rfl⟩
  | snoc l x T T' h1 h2 h3 => simp at hl
theorem filled_f {v : Value} {n : Nat} {T : HT} (h : Filled [itS v n] T) : ∃ g gd gf,T = .mk g gd gf [] [([102],v,dS n)]:=by
  generalize hl : [itS v n] = l at h
  cases h with
  | nil g gd gf => simp at hl
  | snoc l x T T' h1 h2 h3 =>
    have e : ([] : List F3) ++ [itS v n] = l ++ [x]:=hl
    obtain ⟨e1,e2⟩:=List.append_inj' e rfl
    injection e2 with e2 _
    subst e1; subst e2
    obtain ⟨g,gd,gf,rfl⟩:=filled_nil h1
    rw [path_f] at h3
    simp only [Put] at h3
    exact ⟨g,gd,gf,h3⟩
def entS (n : Nat) : Ent:=([102],idF 1 (dS n))
def dirS (n : Nat) : List UInt8:=dirR [entS n]
theorem dirS_eq (n : Nat) : dirS n = 1 :: 102 :: idF 1 (dS n):=by
  have h0 : dirE [entS n] = 0:=dirE_ok (firstBad_all fun x hx => by
    have : x = [102]:=by simpa [nms,entS] using hx
    rw [this]; decide) (fun j hj h1 => by simp at hj; omega) (by simp)
  unfold dirS dirR
  rw [if_pos h0]
  simp [dirB,entB,entS,byte]
theorem dirS_len (n : Nat) : (dirS n).length = 34:=by rw [dirS_eq]; simp [idF,sha_length]
theorem blocks_dirS (n : Nat) : blocksF 2 (dirS n) = [blkD (dirS n) 0,nodeF 2 (dirS n)]:=by
  have h1 : rowsD (dirS n) = [blkD (dirS n) 0]:=by
    unfold rowsD
    rw [dirS_len,show (34 + 63) / 64 = 1 from by decide]
    rfl
  have h2 : (aboveD (dirS n)).1 = []:=by
    unfold aboveD
    rw [h1,above_small (by simp)]
  unfold blocksF
  rw [h1,h2]
  rfl
theorem blocks_f (g gd gf : Nat) (v : Value) (n : Nat) : blocksT (.mk g gd gf [] [([102],v,dS n)]) = blocksF 1 (dS n) ++ [blkD (dirS n) 0,nodeF 2 (dirS n)]:=by
  rw [← blocks_dirS,blocksT,blocksDs,entsD]
  show fileBs [([102],v,dS n)] ++ [] ++ blocksF 2 (dirR [entS n]) = _
  rw [List.append_nil]
  congr 1
  simp [fileBs]
theorem above_tail {n : Nat} : above (n + 1) ((rowsD (dS n)).map sha) = above (n - 1 + 2) ((rowsD (dS n)).map sha):=by
  by_cases h : n = 0
  · subst h
    have : rowsD (dS 0) = []:=rfl
    rw [this]
    rfl
  · rw [show n - 1 + 2 = n + 1 by omega]
theorem nodes_ne {n : Nat} (hn : n ≤ 1000) : nodeF 1 (dS n) ≠ nodeF 2 (dirS n):=fun hc => by
  have h1:=node_parse (kind:=1) (d:=dS n) (.inl rfl) (by rw [dS_length]; omega)
  have h2:=node_parse (kind:=2) (d:=dirS n) (.inr rfl) (by rw [dirS_len]; decide)
  rw [hc,h2] at h1
  have:=congrArg (fun q : Nd × Int => q.1.1) h1
  exact absurd this (by show ¬ (2 : Int) = 1; decide)
theorem dirS_row {n : Nat} (hn : n ≤ 1000) : blkD (dirS n) 0 ∉ rowsD (dS n):=fun hc => by
  unfold rowsD at hc
  obtain ⟨j,hj,he⟩:=List.mem_map.1 hc
  rw [List.mem_range,dS_length] at hj
  have e0 : blkD (dirS n) 0 = 100 :: 1 :: 102 :: idF 1 (dS n):=by
    unfold blkD
    rw [Nat.zero_mul,List.drop_zero,List.take_of_length_le (by rw [dirS_len]; decide),dirS_eq]
  have h1 : at0 (blkD (dS n) j) 1 = 1:=by rw [he,e0]; rfl
  rw [row_at1 (by omega)] at h1
  have hj1 : j = 1:=byte_inj (a:=j) (b:=1) (by omega) (by decide) (by rw [h1]; rfl)
  subst hj1
  have hl:=congrArg List.length he
  rw [e0] at hl
  unfold blkD at hl he
  simp [dS_length,idF,sha_length] at hl
  have h2 : (100 :: ((dS n).drop (1 * 64)).take 64 : List UInt8)[2]? = some (byte ((1 : Nat) : Int)):=by
    rw [List.getElem?_cons_succ,List.getElem?_take_of_lt (by decide),List.getElem?_drop,dS_at (by omega)]
    rfl
  have h3 : (100 :: ((dirS n).drop (0 * 64)).take 64 : List UInt8)[2]? = some 102:=by
    have : (100 :: ((dirS n).drop (0 * 64)).take 64 : List UInt8) = 100 :: 1 :: 102 :: idF 1 (dS n):=e0
    rw [this]; rfl
  rw [he,h3] at h2
  injection h2 with h2
  exact absurd h2 (by decide)
theorem hist_nodup {n : Nat} (hn : n ≤ 1000) (ha : Apart (blocksF 1 (dS n) ++ [blkD (dirS n) 0,nodeF 2 (dirS n)])) : (blocksF 1 (dS n) ++ [blkD (dirS n) 0,nodeF 2 (dirS n)]).Nodup:=by
  have hr:=rowsD_nodup hn
  have hap : Apart (rowsD (dS n) ++ (above (n - 1 + 2) ((rowsD (dS n)).map sha)).1):=ha.sub fun b hb => by
    unfold blocksF aboveD
    rw [dS_length,above_tail]
    rcases List.mem_append.1 hb with hb | hb <;> simp [hb]
  obtain ⟨hu1,hu2⟩:=above_nodup hr (fun b hb => rows_head hb) (by rw [rowsD_length,dS_length]; omega) hap
  have e : (aboveD (dS n)).1 = (above (n - 1 + 2) ((rowsD (dS n)).map sha)).1:=by unfold aboveD; rw [dS_length,above_tail]
  have g1:=nodeF_head (k:=1) (d:=dS n) (.inl rfl) (by rw [dS_length]; omega)
  have g2:=nodeF_head (k:=2) (d:=dirS n) (.inr rfl) (by rw [dirS_len]; decide)
  have g0 : (blkD (dirS n) 0).head? = some 100:=rfl
  unfold blocksF
  rw [e]
  obtain ⟨A,hA⟩ : ∃ A,A = (above (n - 1 + 2) ((rowsD (dS n)).map sha)).1:=⟨_,rfl⟩
  rw [← hA] at hu1 hu2 ⊢
  have hne : ∀ {a b : List UInt8} {x y : UInt8},a.head? = some x → b.head? = some y → x ≠ y → a ≠ b:=fun ha hb hxy hc => hxy (by rw [hc,hb] at ha; injection ha with ha; exact ha.symm)
  rw [List.append_assoc,List.append_assoc,List.nodup_append]
  refine ⟨hr,?_,fun a ha' b hb => ?_⟩
  · rw [List.nodup_append]
    refine ⟨hu1,?_,fun a ha' b hb => ?_⟩
    · show [nodeF 1 (dS n),blkD (dirS n) 0,nodeF 2 (dirS n)].Nodup
      have n1:=hne g1 g0 (by decide)
      have n2:=nodes_ne hn
      have n3:=hne g0 g2 (by decide)
      simp [n1,n2,n3]
    · have hb : b = nodeF 1 (dS n) ∨ b = blkD (dirS n) 0 ∨ b = nodeF 2 (dirS n):=by simpa using hb
      rcases hb with rfl | rfl | rfl
      · exact hne (hu2 a ha') g1 (by decide)
      · exact hne (hu2 a ha') g0 (by decide)
      · exact hne (hu2 a ha') g2 (by decide)
  · rcases List.mem_append.1 hb with hb | hb
    · exact hne (rows_head ha') (hu2 b hb) (by decide)
    · have hb : b = nodeF 1 (dS n) ∨ b = blkD (dirS n) 0 ∨ b = nodeF 2 (dirS n):=by simpa using hb
      rcases hb with rfl | rfl | rfl
      · exact hne (rows_head ha') g1 (by decide)
      · exact fun hc => dirS_row hn (by rw [← hc]; exact ha')
      · exact hne (rows_head ha') g2 (by decide)
theorem size_count {v : Value} {n : Nat} (hn : n ≤ 1000) {T : HT} {l : List TB} (hf : Filled [itS v n] T) (ht : TreeOf (blocksT T) l) (hm : (putsT ([],false) (dirI 5 (partsN [itS v n])).2).2 = false) : l.length = (n + 63) / 64 + upC (n + 1) ((n + 63) / 64) + 3:=by
  have hb:=build_f v hn
  have hrd:=rel_dir 4 T _ hf.rel (fun p hp => ((parts_ok hb).2 p hp).2)
  have hap:=(putsT_apart hm).sub hrd.2
  obtain ⟨g,gd,gf,rfl⟩:=filled_f hf
  rw [blocks_f] at ht hap
  rw [tree_count ht (hist_nodup hn hap) hap]
  unfold blocksF aboveD
  simp only [List.length_append,List.length_cons,List.length_nil]
  rw [above_count,List.length_map,rowsD_length,dS_length]
theorem size_lev {n : Nat} (hn : n ≤ 1000) : lev ((dS n).length : Int) = upL (n + 1) ((n + 63) / 64):=by
  rw [← lev_eq (d:=dS n) (by rw [dS_length]; omega)]
  unfold aboveD
  rw [above_up,List.length_map,rowsD_length,dS_length]
open Go.RowKit
set_option maxRecDepth 8000
def Crs (es os : List EB) : Prop:=∀ e ∈ es,∀ o ∈ os,e.1.key = o.1.key → e.2 = o.2
theorem crs_in {os : List EB} {e o : EB} {y : Nat} (h : ∀ q ∈ os.take y,e.1.key = q.1.key → e.2 = q.2) (ho : os[y]? = some o) (h2 : e.1.key = o.1.key → e.2 = o.2) : ∀ q ∈ os.take (y + 1),e.1.key = q.1.key → e.2 = q.2:=fun q hq => by
  rw [take_snoc2 ho] at hq
  rcases List.mem_append.1 hq with hq | hq
  · exact h q hq
  · rw [List.mem_singleton.1 hq]; exact h2
theorem crs_out {es os : List EB} {e : EB} {x : Nat} (h : Crs (es.take x) os) (he : es[x]? = some e) (h2 : ∀ q ∈ os,e.1.key = q.1.key → e.2 = q.2) : Crs (es.take (x + 1)) os:=fun q hq => by
  rw [take_snoc2 he] at hq
  rcases List.mem_append.1 hq with hq | hq
  · exact h q hq
  · rw [List.mem_singleton.1 hq]; exact h2
structure NoMeet (xa xb : List F3) : Prop where
  left : (putsT ([],false) (dirI 5 (partsN xa)).2).2 = false
  right : (putsT ([],false) (dirI 5 (partsN xb)).2).2 = false
  cross : ∀ p ∈ (putsT ([],false) (dirI 5 (partsN xa)).2).1,∀ q ∈ (putsT ([],false) (dirI 5 (partsN xb)).2).1,p.1 = q.1 → p.2.1 = q.2.1
theorem noMeet {xa xb : List F3} {es os : List EB} {la lb : List TB} (h1 : (la,false) = putsT ([],false) (dirI 5 (partsN xa)).2) (h2 : (lb,false) = putsT ([],false) (dirI 5 (partsN xb)).2) (he : es.map toTB = la) (ho : os.map toTB = lb) (hc : Crs es os) : NoMeet xa xb:=by
  refine ⟨by rw [← h1],by rw [← h2],fun p hp q hq hk => ?_⟩
  rw [← h1,← he] at hp
  rw [← h2,← ho] at hq
  obtain ⟨e,hem,rfl⟩:=List.mem_map.1 hp
  obtain ⟨o,hom,rfl⟩:=List.mem_map.1 hq
  exact hc e hem o hom hk
theorem ref_len {xs : List F3} (hb : buildE xs = 0) {l : List TB} {m : Bool} (h : (l,m) = putsT ([],false) (dirI 5 (partsN xs)).2) {es : List EB} (he : es.map toTB = l) : es.length ≤ 1000000000000:=by
  have h1:=putsT_len ([],false) (dirI 5 (partsN xs)).2
  obtain ⟨h2,h3⟩:=parts_ok hb
  have h4:=dirI_le 5 (partsN xs) h2 (fun p hp => by have:=(h3 p hp).1; omega)
  have h5 : bnd 5 ≤ 1000000000000:=by decide
  rw [← h] at h1
  have h6:=congrArg List.length he
  rw [List.length_map] at h6
  simp at h1
  omega
theorem met_spec (va vb : Value) (es os : List EB) (hen : es.length ≤ 1000000000000) (hon : os.length ≤ 1000000000000) (F : HP) (hA : ∀ h,F h → rdP 35 va es.length (recC bvC (es.map (fun p : EB => p.1))) h) (hDA : ∀ h,F h → datE es h) (hB : ∀ h,F h → rdP 35 vb os.length (recC bvC (os.map (fun p : EB => p.1))) h) (hDB : ∀ h,F h → datE os h) : CallsS Tryz.prog 42 #[va,vb] F [] (fun r Ps => Ps = [] ∧ ∃ b : Bool,r = .bool b ∧ (b = false → Crs es os)):=by
 refine callsS_enter Tryz.func42 rfl Tryz.ntmps42 (by simp) (fun E => ?_)
 refine Q9 (R9 (G9 rfl rfl (N9 (X9 (Q9 (Q9 (R9 (G9 rfl rfl (N9 (X9 ?_))))))))))
 refine W_block ?_
 refine W_loop (α:=Nat) (fun x => [(0,va),(1,vb),(5,.int .i64 (x : Int))]) (fun x => [(0,F)]) (fun x => x ≤ es.length ∧ Crs (es.take x) os) (fun x => es.length - x) (0) ⟨Nat.zero_le _,fun e he => by simp at he⟩ (a9 rfl) ⟨rfl,trivial⟩ (fun x hx => ?_)
 obtain ⟨hx,hxc⟩:=hx
 refine Q9 (Q9 (R9 (M9 rfl rfl (M9 rfl rfl (L9 rfl (Pl9 (r:=0) rfl Tryz.runUnderlying27 rfl rfl hA) (L9 rfl (Pn9 rfl rfl rfl (run_lss _ _ _ _ _ _)) (N9 (X9 ?_))))))))
 refine C9 rfl (fun hc10 => ?_) (fun hc10 => ?_)
 ·
  have hlt : x < es.length:=by have:=of_decide_eq_true hc10; omega
  obtain ⟨e,he⟩ : ∃ e,es[x]? = some e:=⟨_,List.getElem?_eq_getElem hlt⟩
  have hed : ∀ h,F h → rdB e.1.sl e.2 h:=fun h hp => hDA h hp e (List.mem_of_getElem? he)
  refine K9 (X9 ?_)
  refine Q9 ?_
  refine W_block ?_
  refine Q9 (R9 (G9 rfl rfl (N9 (X9 ?_))))
  refine W_block ?_
  refine W_loop (α:=Nat) (fun y => [(0,va),(1,vb),(5,.int .i64 (x : Int)),(6,.int .i64 (y : Int))]) (fun y => [(0,F)]) (fun y => y ≤ os.length ∧ (∀ q ∈ os.take y,e.1.key = q.1.key → e.2 = q.2)) (fun y => os.length - y) (0) ⟨Nat.zero_le _,fun q hq => by simp at hq⟩ (a9 rfl) ⟨rfl,trivial⟩ (fun y hy => ?_)
  obtain ⟨hy,hyc⟩:=hy
  refine Q9 (Q9 (R9 (M9 rfl rfl (M9 rfl rfl (L9 rfl (Pl9 (r:=0) rfl Tryz.runUnderlying27 rfl rfl hB) (L9 rfl (Pn9 rfl rfl rfl (run_lss _ _ _ _ _ _)) (N9 (X9 ?_))))))))
  refine C9 rfl (fun hc16 => ?_) (fun hc16 => ?_)
  ·
   have hlt2 : y < os.length:=by have:=of_decide_eq_true hc16; omega
   obtain ⟨o,ho⟩ : ∃ o,os[y]? = some o:=⟨_,List.getElem?_eq_getElem hlt2⟩
   have hod : ∀ h,F h → rdB o.1.sl o.2 h:=fun h hp => hDB h hp o (List.mem_of_getElem? ho)
   refine K9 (X9 ?_)
   refine Q9 ?_
   refine W_block ?_
   refine Q9 ?_
   rcases Bool.eq_false_or_eq_true (e.1.key == o.1.key) with hsp7 | hsp7
   ·
    refine W_draw (N:=26) (by kernel_rfl) rfl [(0,_)] ⟨rfl,trivial⟩ ?_
    refine (T9 0 rfl rfl (Pm9 rfl rfl) (T9 1 rfl rfl (Pm9 rfl rfl) (T9 2 rfl rfl (Pi9 (r:=0) rfl Tryz.runUnderlying27 Tryz.sizeOf59 rfl rfl rfl hA (by omega)) (T9 3 rfl rfl (Pu_fieldAddrE (off:=0) rfl rfl (by kernel_rfl)) (T9 4 rfl rfl (Pz9 (r:=0) rfl Tryz.isAgg29 Tryz.sizeOf29 rfl rfl hA ((bs_length _).trans e.1.len) (by decide) (eb_key (k:=x) he)) (T9 5 rfl rfl (Pm9 rfl rfl) (T9 6 rfl rfl (Pm9 rfl rfl) (T9 7 rfl rfl (Pi9 (r:=0) rfl Tryz.runUnderlying27 Tryz.sizeOf59 rfl rfl rfl hB (by omega)) (T9 8 rfl rfl (Pu_fieldAddrE (off:=0) rfl rfl (by kernel_rfl)) (T9 9 rfl rfl (Pz9 (r:=0) rfl Tryz.isAgg29 Tryz.sizeOf29 rfl rfl hB ((bs_length _).trans o.1.len) (by decide) (eb_key (k:=y) ho)) (T9 10 rfl rfl (Pn9 rfl rfl rfl (run_idEq _ _ e.1.len o.1.len _ _)) (T9 11 rfl rfl (Pm9 rfl rfl) (AH_takeT 12 rfl (by kernel_rfl) (by kernel_rfl) (by kernel_rfl) rfl rfl rfl (by rw [hsp7]; rfl) rfl (by decide) (Pm9 rfl rfl) (AH_takeT 13 rfl (by kernel_rfl) (by kernel_rfl) (by kernel_rfl) rfl rfl rfl (by rw [hsp7]; rfl) rfl (by decide) (Pm9 rfl rfl) (AH_takeT 14 rfl (by kernel_rfl) (by kernel_rfl) (by kernel_rfl) rfl rfl rfl (by rw [hsp7]; rfl) rfl (by decide) (Pi9 (r:=0) rfl Tryz.runUnderlying27 Tryz.sizeOf59 rfl rfl rfl hA (by omega)) (AH_takeT 15 rfl (by kernel_rfl) (by kernel_rfl) (by kernel_rfl) rfl rfl rfl (by rw [hsp7]; rfl) rfl (by decide) (Pu_fieldAddrE (off:=32) rfl rfl (by kernel_rfl)) (AH_takeT 16 rfl (by kernel_rfl) (by kernel_rfl) (by kernel_rfl) rfl rfl rfl (by rw [hsp7]; rfl) rfl (by decide) (Py9 (r:=0) rfl Tryz.isAgg36 rfl rfl hA (eb_data (k:=x) he)) (AH_takeT 17 rfl (by kernel_rfl) (by kernel_rfl) (by kernel_rfl) rfl rfl rfl (by rw [hsp7]; rfl) rfl (by decide) (Pu_convBS (r:=0) rfl Tryz.underlying36 Tryz.underlying5 Tryz.underlying9 rfl rfl hed) (AH_takeT 18 rfl (by kernel_rfl) (by kernel_rfl) (by kernel_rfl) rfl rfl rfl (by rw [hsp7]; rfl) rfl (by decide) (Pm9 rfl rfl) (AH_takeT 19 rfl (by kernel_rfl) (by kernel_rfl) (by kernel_rfl) rfl rfl rfl (by rw [hsp7]; rfl) rfl (by decide) (Pm9 rfl rfl) (AH_takeT 20 rfl (by kernel_rfl) (by kernel_rfl) (by kernel_rfl) rfl rfl rfl (by rw [hsp7]; rfl) rfl (by decide) (Pi9 (r:=0) rfl Tryz.runUnderlying27 Tryz.sizeOf59 rfl rfl rfl hB (by omega)) (AH_takeT 21 rfl (by kernel_rfl) (by kernel_rfl) (by kernel_rfl) rfl rfl rfl (by rw [hsp7]; rfl) rfl (by decide) (Pu_fieldAddrE (off:=32) rfl rfl (by kernel_rfl)) (AH_takeT 22 rfl (by kernel_rfl) (by kernel_rfl) (by kernel_rfl) rfl rfl rfl (by rw [hsp7]; rfl) rfl (by decide) (Py9 (r:=0) rfl Tryz.isAgg36 rfl rfl hB (eb_data (k:=y) ho)) (AH_takeT 23 rfl (by kernel_rfl) (by kernel_rfl) (by kernel_rfl) rfl rfl rfl (by rw [hsp7]; rfl) rfl (by decide) (Pu_convBS (r:=0) rfl Tryz.underlying36 Tryz.underlying5 Tryz.underlying9 rfl rfl hod) (AH_takeT 24 rfl (by kernel_rfl) (by kernel_rfl) (by kernel_rfl) rfl rfl rfl (by rw [hsp7]; rfl) rfl (by decide) (Pn9 rfl rfl rfl (run_strNe _ _ _ _ _)) (T9 25 rfl rfl (Pu_pickT rfl rfl hsp7 rfl) (Ad9 (by kernel_rfl) (X9 ?_))))))))))))))))))))))))))))
    refine C9 rfl (fun hc44 => ?_) (fun hc44 => ?_)
    ·
     refine Q9 (R9 (G9 rfl rfl (N9 (X9 ?_))))
     refine W_ret (X_block_ret (X_then_ret (X_then_ret (X_block_ret (X_block_ret (X_then_ret (X_then_ret (X_block_ret (X_then_ret ?_)))))))))
     exact Xq9 [] (Ps:=[]) (res1 Tryz.results42 rfl) rfl (by decide) ⟨rfl,_,rfl,fun h => by cases h⟩
    ·
     refine K9 (X_block (X9 ?_))
     refine R9 (M9 rfl rfl (L9 rfl (Pn9 rfl rfl rfl (run_add _ _ _ _ _ (by omega))) (G9 rfl rfl (N9 ?_))))
     exact Xr9 (y + 1) ⟨by omega,crs_in hyc ho (fun hk => by simpa using hc44)⟩ (by omega) (a9 rfl) ⟨rfl,trivial⟩
   ·
    refine W_draw (N:=26) (by kernel_rfl) rfl [(0,_)] ⟨rfl,trivial⟩ ?_
    refine (T9 0 rfl rfl (Pm9 rfl rfl) (T9 1 rfl rfl (Pm9 rfl rfl) (T9 2 rfl rfl (Pi9 (r:=0) rfl Tryz.runUnderlying27 Tryz.sizeOf59 rfl rfl rfl hA (by omega)) (T9 3 rfl rfl (Pu_fieldAddrE (off:=0) rfl rfl (by kernel_rfl)) (T9 4 rfl rfl (Pz9 (r:=0) rfl Tryz.isAgg29 Tryz.sizeOf29 rfl rfl hA ((bs_length _).trans e.1.len) (by decide) (eb_key (k:=x) he)) (T9 5 rfl rfl (Pm9 rfl rfl) (T9 6 rfl rfl (Pm9 rfl rfl) (T9 7 rfl rfl (Pi9 (r:=0) rfl Tryz.runUnderlying27 Tryz.sizeOf59 rfl rfl rfl hB (by omega)) (T9 8 rfl rfl (Pu_fieldAddrE (off:=0) rfl rfl (by kernel_rfl)) (T9 9 rfl rfl (Pz9 (r:=0) rfl Tryz.isAgg29 Tryz.sizeOf29 rfl rfl hB ((bs_length _).trans o.1.len) (by decide) (eb_key (k:=y) ho)) (T9 10 rfl rfl (Pn9 rfl rfl rfl (run_idEq _ _ e.1.len o.1.len _ _)) (T9 11 rfl rfl (Pm9 rfl rfl) (AH_takeF 12 rfl (by kernel_rfl) (by kernel_rfl) (by kernel_rfl) rfl rfl rfl (by rw [hsp7]; rfl) rfl (by decide) (AH_takeF 13 rfl (by kernel_rfl) (by kernel_rfl) (by kernel_rfl) rfl rfl rfl (by rw [hsp7]; rfl) rfl (by decide) (AH_takeF 14 rfl (by kernel_rfl) (by kernel_rfl) (by kernel_rfl) rfl rfl rfl (by rw [hsp7]; rfl) rfl (by decide) (AH_takeF 15 rfl (by kernel_rfl) (by kernel_rfl) (by kernel_rfl) rfl rfl rfl (by rw [hsp7]; rfl) rfl (by decide) (AH_takeF 16 rfl (by kernel_rfl) (by kernel_rfl) (by kernel_rfl) rfl rfl rfl (by rw [hsp7]; rfl) rfl (by decide) (AH_takeF 17 rfl (by kernel_rfl) (by kernel_rfl) (by kernel_rfl) rfl rfl rfl (by rw [hsp7]; rfl) rfl (by decide) (AH_takeF 18 rfl (by kernel_rfl) (by kernel_rfl) (by kernel_rfl) rfl rfl rfl (by rw [hsp7]; rfl) rfl (by decide) (AH_takeF 19 rfl (by kernel_rfl) (by kernel_rfl) (by kernel_rfl) rfl rfl rfl (by rw [hsp7]; rfl) rfl (by decide) (AH_takeF 20 rfl (by kernel_rfl) (by kernel_rfl) (by kernel_rfl) rfl rfl rfl (by rw [hsp7]; rfl) rfl (by decide) (AH_takeF 21 rfl (by kernel_rfl) (by kernel_rfl) (by kernel_rfl) rfl rfl rfl (by rw [hsp7]; rfl) rfl (by decide) (AH_takeF 22 rfl (by kernel_rfl) (by kernel_rfl) (by kernel_rfl) rfl rfl rfl (by rw [hsp7]; rfl) rfl (by decide) (AH_takeF 23 rfl (by kernel_rfl) (by kernel_rfl) (by kernel_rfl) rfl rfl rfl (by rw [hsp7]; rfl) rfl (by decide) (AH_takeF 24 rfl (by kernel_rfl) (by kernel_rfl) (by kernel_rfl) rfl rfl rfl (by rw [hsp7]; rfl) rfl (by decide) (T9 25 rfl rfl (Pu_pickF rfl rfl hsp7 rfl) (Ad9 (by kernel_rfl) (X9 ?_))))))))))))))))))))))))))))
    refine W_false rfl (rfl) ?_
    refine K9 (X_block (X9 ?_))
    refine R9 (M9 rfl rfl (L9 rfl (Pn9 rfl rfl rfl (run_add _ _ _ _ _ (by omega))) (G9 rfl rfl (N9 ?_))))
    exact Xr9 (y + 1) ⟨by omega,crs_in hyc ho (fun hk => by rw [hk] at hsp7; simp at hsp7)⟩ (by omega) (a9 rfl) ⟨rfl,trivial⟩
  ·
   have hge2 : os.length ≤ y:=by have:=of_decide_eq_false hc16; omega
   rw [List.take_of_length_le hge2] at hyc
   refine W_exit (X_then_exit (X_then_exit (X_block_exit (X_block (X9 ?_)))))
   refine R9 (M9 rfl rfl (L9 rfl (Pn9 rfl rfl rfl (run_add _ _ _ _ _ (by omega))) (G9 rfl rfl (N9 ?_))))
   exact Xr9 (x + 1) ⟨by omega,crs_out hxc he hyc⟩ (by omega) (a9 rfl) ⟨rfl,trivial⟩
 ·
  have hge : es.length ≤ x:=by have:=of_decide_eq_false hc10; omega
  rw [List.take_of_length_le hge] at hxc
  refine W_exit (X_then_exit (X_then_exit (X_block_exit (X9 ?_))))
  refine Q9 (R9 (G9 rfl rfl (N9 (X9 ?_))))
  refine W_ret ?_
  exact Xq9 [] (Ps:=[]) (res1 Tryz.results42 rfl) rfl (by decide) ⟨rfl,_,rfl,fun _ => hxc⟩
theorem meets_spec (va vb : Value) (xa xb : List F3) (hba : buildE xa = 0) (hbb : buildE xb = 0) (hlna : xa.length ≤ 1000000000000) (hlnb : xb.length ≤ 1000000000000) (hsha : ∀ x ∈ xa,x.1.length ≤ 900000 ∧ x.2.2.length ≤ 100000000000) (hshb : ∀ x ∈ xb,x.1.length ≤ 900000 ∧ x.2.2.length ≤ 100000000000) (F : HP) (hA : ∀ h,F h → rdIt va xa h) (hDA : ∀ h,F h → datI xa h) (hB : ∀ h,F h → rdIt vb xb h) (hDB : ∀ h,F h → datI xb h) : CallsS Tryz.prog 18 #[va,vb] F [] (fun r Ps => Ps = [] ∧ ∃ m : Bool,r = .bool m ∧ (m = false → NoMeet xa xb)):=by
 refine callsS_enter Tryz.func18 rfl Tryz.ntmps18 (by simp) (fun E => ?_)
 refine Q9 (R9 (G9 rfl rfl (N9 (X9 (Q9 (R9 (M9 rfl rfl (Lc9 rfl rfl (by decide) (Oc9 200 [0] [] rfl Tryz.call21 rfl rfl rfl (by decide) (by decide) (refBuild_spec va xa hlna hsha _ (rs9 0 rfl hA) (datI_star 0 rfl hDA)) (fun v11 Ps11 hR11 => ?_))))))))))
 obtain ⟨wa,ida,ma,la,rfl,rfl,hida,hvoa,hga,_⟩:=hR11
 skip
 have hga2:=(hga hba).1
 refine (M9 rfl rfl (L9 rfl (Pe9 rfl rfl rfl) (L9 rfl (Pe9 rfl rfl rfl) (Lc9 rfl rfl (by decide) (OpT_alloc (r:=201) (cs:=(refC (.slice none 0 0) zeroId false)) rfl (zero_run (by kernel_rfl : (Tryz.prog.info? 50).bind (·.zero) = some (.agg (refC (.slice none 0 0) zeroId false).toArray))) rfl (fun g201 => (Lc09 rfl rfl (OpT_storeAll (r:=201) rfl Tryz.sizeOf50 rfl rfl rfl (refC_len zeroId_length) (refC_len hida) (refC_one hvoa) ?_))))))))
 refine (G9 rfl rfl (N9 (X9 ?_)))
 refine Q9 ?_
 refine W_openTree 200 2000 rfl (fun es hes => ?_)
 rcases Bool.eq_false_or_eq_true (ma) with hsp2 | hsp2
 ·
  subst hsp2
  refine R9 (M9 rfl rfl (Lc9 rfl rfl (by decide) (Oc9 2100 [0,201,2000,2001] [] rfl Tryz.call21 rfl rfl rfl (by decide) (by decide) (refBuild_spec vb xb hlnb hshb _ (rs9 0 rfl hB) (datI_star 0 rfl hDB)) (fun v16 Ps16 hR16 => ?_))))
  obtain ⟨wb,idb,mb,lb,rfl,rfl,hidb,hvob,hgb,_⟩:=hR16
  skip
  have hgb2:=(hgb hbb).1
  refine (M9 rfl rfl (L9 rfl (Pe9 rfl rfl rfl) (L9 rfl (Pe9 rfl rfl rfl) (Lc9 rfl rfl (by decide) (OpT_alloc (r:=2101) (cs:=(refC (.slice none 0 0) zeroId false)) rfl (zero_run (by kernel_rfl : (Tryz.prog.info? 50).bind (·.zero) = some (.agg (refC (.slice none 0 0) zeroId false).toArray))) rfl (fun g2101 => (Lc09 rfl rfl (OpT_storeAll (r:=2101) rfl Tryz.sizeOf50 rfl rfl rfl (refC_len zeroId_length) (refC_len hidb) (refC_one hvob) ?_))))))))
  refine (G9 rfl rfl (N9 (X9 ?_)))
  refine Q9 ?_
  refine W_openTree 2100 3000 rfl (fun os hos => ?_)
  rcases Bool.eq_false_or_eq_true (mb) with hsp3 | hsp3
  ·
   subst hsp3
   refine R9 (L9 rfl (F9 33 rfl rfl) (L9 rfl (Pb9 (r:=201) rfl Tryz.isAgg4 rfl rfl (refC_met hida)) (M9 rfl rfl (WL_gF rfl rfl rfl rfl rfl (by decide) (WL_gF rfl rfl rfl rfl rfl (by decide) (L9 rfl (Pu_pickT rfl rfl rfl rfl) (M9 rfl rfl (WL_gF rfl rfl rfl rfl rfl (by decide) (WL_gF rfl rfl rfl rfl rfl (by decide) (WL_gF rfl rfl rfl rfl rfl (by decide) (WL_gF rfl rfl rfl rfl rfl (by decide) (WL_gF rfl rfl rfl rfl rfl (by decide) (L9 rfl (Pu_pickT rfl rfl rfl rfl) (G9 rfl rfl (N9 (X9 ?_))))))))))))))))
   refine W_ret ?_
   exact Xq9 [] (Ps:=[]) (res1 Tryz.results18 rfl) rfl (by decide) ⟨rfl,true,rfl,fun h => by cases h⟩
  ·
   subst hsp3
   refine R9 (L9 rfl (F9 33 rfl rfl) (L9 rfl (Pb9 (r:=201) rfl Tryz.isAgg4 rfl rfl (refC_met hida)) (M9 rfl rfl (WL_gF rfl rfl rfl rfl rfl (by decide) (WL_gF rfl rfl rfl rfl rfl (by decide) (L9 rfl (Pu_pickT rfl rfl rfl rfl) (M9 rfl rfl (WL_gF rfl rfl rfl rfl rfl (by decide) (WL_gF rfl rfl rfl rfl rfl (by decide) (WL_gF rfl rfl rfl rfl rfl (by decide) (WL_gF rfl rfl rfl rfl rfl (by decide) (WL_gF rfl rfl rfl rfl rfl (by decide) (L9 rfl (Pu_pickT rfl rfl rfl rfl) (G9 rfl rfl (N9 (X9 ?_))))))))))))))))
   refine W_ret ?_
   exact Xq9 [] (Ps:=[]) (res1 Tryz.results18 rfl) rfl (by decide) ⟨rfl,true,rfl,fun h => by cases h⟩
 ·
  subst hsp2
  refine R9 (M9 rfl rfl (Lc9 rfl rfl (by decide) (Oc9 2100 [0,201,2000,2001] [] rfl Tryz.call21 rfl rfl rfl (by decide) (by decide) (refBuild_spec vb xb hlnb hshb _ (rs9 0 rfl hB) (datI_star 0 rfl hDB)) (fun v16 Ps16 hR16 => ?_))))
  obtain ⟨wb,idb,mb,lb,rfl,rfl,hidb,hvob,hgb,_⟩:=hR16
  skip
  have hgb2:=(hgb hbb).1
  refine (M9 rfl rfl (L9 rfl (Pe9 rfl rfl rfl) (L9 rfl (Pe9 rfl rfl rfl) (Lc9 rfl rfl (by decide) (OpT_alloc (r:=2101) (cs:=(refC (.slice none 0 0) zeroId false)) rfl (zero_run (by kernel_rfl : (Tryz.prog.info? 50).bind (·.zero) = some (.agg (refC (.slice none 0 0) zeroId false).toArray))) rfl (fun g2101 => (Lc09 rfl rfl (OpT_storeAll (r:=2101) rfl Tryz.sizeOf50 rfl rfl rfl (refC_len zeroId_length) (refC_len hidb) (refC_one hvob) ?_))))))))
  refine (G9 rfl rfl (N9 (X9 ?_)))
  refine Q9 ?_
  refine W_openTree 2100 3000 rfl (fun os hos => ?_)
  rcases Bool.eq_false_or_eq_true (mb) with hsp3 | hsp3
  ·
   subst hsp3
   refine R9 (L9 rfl (F9 33 rfl rfl) (L9 rfl (Pb9 (r:=201) rfl Tryz.isAgg4 rfl rfl (refC_met hida)) (M9 rfl rfl (WL_gPT rfl rfl rfl rfl rfl (by decide) (F9 33 rfl rfl) (WL_gPT rfl rfl rfl rfl rfl (by decide) (Pb9 (r:=2101) rfl Tryz.isAgg4 rfl rfl (refC_met hidb)) (L9 rfl (Pu_pickF rfl rfl rfl rfl) (M9 rfl rfl (WL_gF rfl rfl rfl rfl rfl (by decide) (WL_gF rfl rfl rfl rfl rfl (by decide) (WL_gF rfl rfl rfl rfl rfl (by decide) (WL_gF rfl rfl rfl rfl rfl (by decide) (WL_gF rfl rfl rfl rfl rfl (by decide) (L9 rfl (Pu_pickT rfl rfl rfl rfl) (G9 rfl rfl (N9 (X9 ?_))))))))))))))))
   refine W_ret ?_
   exact Xq9 [] (Ps:=[]) (res1 Tryz.results18 rfl) rfl (by decide) ⟨rfl,true,rfl,fun h => by cases h⟩
  ·
   subst hsp3
   refine R9 (L9 rfl (F9 33 rfl rfl) (L9 rfl (Pb9 (r:=201) rfl Tryz.isAgg4 rfl rfl (refC_met hida)) (M9 rfl rfl (WL_gPT rfl rfl rfl rfl rfl (by decide) (F9 33 rfl rfl) (WL_gPT rfl rfl rfl rfl rfl (by decide) (Pb9 (r:=2101) rfl Tryz.isAgg4 rfl rfl (refC_met hidb)) (L9 rfl (Pu_pickF rfl rfl rfl rfl) (M9 rfl rfl (WL_gPT rfl rfl rfl rfl rfl (by decide) (F9 0 rfl rfl) (WL_gPT rfl rfl rfl rfl rfl (by decide) (Pb9 (r:=201) rfl Tryz.isAgg27 rfl rfl rfl) (WL_gPT rfl rfl rfl rfl rfl (by decide) (F9 0 rfl rfl) (WL_gPT rfl rfl rfl rfl rfl (by decide) (Pb9 (r:=2101) rfl Tryz.isAgg27 rfl rfl rfl) (WL_gT rfl rfl rfl rfl rfl (by decide) (Oc9 3100 [0,201,2000,2001,2101,3000,3001] [] rfl Tryz.call42 rfl rfl rfl (by decide) (by decide) (met_spec wa wb es os (ref_len hba hga2 hes) (ref_len hbb hgb2 hos) _ (rs9 2 rfl (fun _ h => rp9 h)) (ds9 3 rfl (fun _ h => h)) (rs9 5 rfl (fun _ h => rp9 h)) (ds9 6 rfl (fun _ h => h))) (fun v30 Ps30 hR30 => ?_))))))))))))))
   obtain ⟨rfl,mm,rfl,hmm⟩:=hR30
   refine (L9 rfl (Pu_pickF rfl rfl rfl rfl) (G9 rfl rfl (N9 (X9 ?_))))
   refine W_ret ?_
   exact Xq9 [] (Ps:=[]) (res1 Tryz.results18 rfl) rfl (by decide) ⟨rfl,mm,rfl,fun h => noMeet hga2 hgb2 hes hos (hmm h)⟩
open Go.RowKit
set_option maxRecDepth 8000
def fndE (es : List EB) (k : List UInt8) : Option EB:=es.find? fun b => decide (b.1.key = k) && decide (sha b.2 = k)
open Go.RowKit
set_option maxRecDepth 8000
open Go.RowKit
set_option maxRecDepth 8000
def lastV (V : VW) (m : List UInt8) (es : List Ent) (st : Nd × Int) : Nd × Int:=es.foldl (fun st e => if e.1 = m then inodeV V e.2 else st) st
open Go.RowKit
set_option maxRecDepth 8000
open Go.RowKit
set_option maxRecDepth 8000
theorem itP_rd {v : Value} {xs : List F3} {h : Hlt} (hp : itemsP v xs h) : rdIt v xs h:=starL_le hp (φ:=rdIt v xs) 0 rfl fun h' h1 h2 => rdP_le h2 (rowR_rd _ h1)
theorem itP_dat {v : Value} {xs : List F3} {h : Hlt} (hp : itemsP v xs h) : datI xs h:=fun q hq => starL_le hp (φ:=rdB q.2.1 q.2.2) 1 rfl fun h' h1 h2 => rdP_le h2 (h1 q hq)
theorem short_big {xs : List F3} (h : Short3 xs) : ∀ x ∈ xs,x.1.length ≤ 900000 ∧ x.2.2.length ≤ 100000000000:=fun x hx => ⟨by have:=(h x hx).1; omega,by have:=(h x hx).2.1; omega⟩
open Go.RowKit
set_option maxRecDepth 8000
open Go.RowKit
set_option maxRecDepth 8000
def mixS9 (n i : Nat) : List UInt8:=(dS n).take i ++ List.replicate (n - i) 0
theorem mix9_len {n i : Nat} (h : i ≤ n) : (mixS9 n i).length = n:=by unfold mixS9; rw [List.length_append,List.length_take,List.length_replicate,dS_length]; omega
theorem mix9_zero (n : Nat) : mixS9 n 0 = List.replicate n 0:=by simp [mixS9]
theorem mix9_all (n : Nat) : mixS9 n n = dS n:=by unfold mixS9; rw [Nat.sub_self,List.take_of_length_le (by rw [dS_length]; omega)]; simp
theorem mix9_set {n i : Nat} (h : i < n) {x : UInt8} (hx : (dS n)[i]? = some x) : (mixS9 n i).set i x = mixS9 n (i + 1):=by
  unfold mixS9
  have hl : ((dS n).take i).length = i:=by rw [List.length_take,dS_length]; omega
  rw [List.set_append_right _ _ (by omega),hl,Nat.sub_self,show n - i = (n - (i + 1)) + 1 by omega,List.replicate_succ,List.set_cons_zero,List.take_add_one,hx]
  simp
theorem mix9_plain {n i : Nat} (h : i < n) (hi : i % 64 = 0) : (mixS9 n i).set i (byte ((i / 64 : Nat) : Int)) = mixS9 n (i + 1):=mix9_set h (by rw [dS_at h,if_pos hi])
theorem mix9_twice {n i : Nat} (h : i < n) (hi : ¬ i % 64 = 0) (x : UInt8) : ((mixS9 n i).set i x).set i (byte ((i % 64 : Nat) : Int)) = mixS9 n (i + 1):=by
  rw [List.set_set]
  exact mix9_set h (by rw [dS_at h,if_neg hi])
theorem itS_dat {v : Value} {n : Nat} {h : Hlt} (hp : rdB v (dS n) h) : datI [itS v n] h:=fun q hq => by rw [List.mem_singleton.1 hq]; exact hp
theorem itS_short (v : Value) {n : Nat} (hn : n ≤ 1000) : Short3 [itS v n]:=fun x hx => by
  rw [List.mem_singleton.1 hx]
  exact ⟨by show (2 : Nat) ≤ 200; decide,by show (dS n).length ≤ 1100; rw [dS_length]; omega,[[102]],by simp,fun m hm => by rw [List.mem_singleton.1 hm]; decide,rfl⟩
structure SzI (n k bl lv f : Nat) : Prop where
  k16 : k ≤ 16
  fuel : k ≤ f
  count : bl + upC f k = (n + 63) / 64 + upC (n + 1) ((n + 63) / 64)
  levs : lv + upL f k = upL (n + 1) ((n + 63) / 64)
theorem SzI.start {n : Nat} (hn : n ≤ 1000) : SzI n ((n + 63) / 64) ((n + 63) / 64) 0 (n + 1):=⟨by omega,by omega,rfl,Nat.zero_add _⟩
theorem SzI.step {n k bl lv f : Nat} (h : SzI n k bl lv f) (hk : 1 < k) : ∃ f',f = f' + 1 ∧ SzI n ((k + 7) / 8) (bl + (k + 7) / 8) (lv + 1) f':=by
  have h16:=h.k16
  have hf:=h.fuel
  obtain ⟨f',rfl⟩ : ∃ f',f = f' + 1:=⟨f - 1,by omega⟩
  have h1:=h.count
  have h2:=h.levs
  rw [upC,if_pos hk] at h1
  rw [upL,if_pos hk] at h2
  exact ⟨f',rfl,by omega,by omega,by omega,by omega⟩
theorem SzI.done {n k bl lv f : Nat} (h : SzI n k bl lv f) (hk : ¬ 1 < k) : bl = (n + 63) / 64 + upC (n + 1) ((n + 63) / 64) ∧ lv = upL (n + 1) ((n + 63) / 64):=by
  have h1:=h.count
  have h2:=h.levs
  have e1 : upC f k = 0:=by cases f with
    | zero => rfl
    | succ f => rw [upC,if_neg hk]
  rw [e1] at h1
  rw [upL_small _ _ (by omega)] at h2
  exact ⟨by omega,by omega⟩
theorem SzI.small {n k bl lv f : Nat} (h : SzI n k bl lv f) (hn : n ≤ 1000) : bl ≤ 1000 + upC (n + 1) ((n + 63) / 64) ∧ lv ≤ upL (n + 1) ((n + 63) / 64):=by
  have h1:=h.count
  have h2:=h.levs
  omega
theorem upC_small : ∀ (f n : Nat),n ≤ 16 → upC f n ≤ 100
  | 0,n,h => by rw [upC]; omega
  | 1,n,h => by rw [upC]; split <;> simp [upC] <;> omega
  | 2,n,h => by
    rw [upC]
    split
    · rw [upC]; split <;> simp [upC] <;> omega
    · omega
  | f + 3,n,h => by
    rw [upC]
    split
    · rw [upC]
      split
      · have : ((n + 7) / 8 + 7) / 8 ≤ 1:=by omega
        have e : upC (f + 1) (((n + 7) / 8 + 7) / 8) = 0:=by rw [upC,if_neg (by omega)]
        rw [e]; omega
      · omega
    · omega
theorem upL_le (f n : Nat) : upL f n ≤ f:=by
  induction f generalizing n with
  | zero => exact Nat.le_refl _
  | succ f ih =>
    rw [upL]
    split
    · have:=ih ((n + 7) / 8); omega
    · omega
set_option maxHeartbeats 2000000 in
theorem treeSizes_spec (a : Int) (F : HP) (hT : ∀ h,F h → tabsP h) : CallsS Tryz.prog 4 #[.int .i64 a] F [] (fun r Ps => r = .bool true ∧ Ps = []):=by
 refine callsS_enter Tryz.func4 rfl Tryz.ntmps4 (by simp) (fun E => ?_)
 refine Q9 (R9 (G9 rfl rfl (N9 (X9 (Q9 (Q9 (R9 (Lc9 rfl rfl (by decide) (Oc9 200 [0] [] rfl Tryz.call13 rfl rfl rfl (by decide) (by decide) (known10_spec _ (ts9 0 rfl hT)) (fun v14 Ps14 hR14 => ?_))))))))))
 obtain ⟨rfl,rfl⟩:=hR14
 refine (L9 rfl (Pu_un rfl rfl (run_not _)) (N9 (X9 ?_)))
 refine W_false rfl (rfl) ?_
 refine K9 (X9 ?_)
 refine Q9 (R9 (M9 rfl rfl (Lc9 rfl rfl (by decide) (Oc9 300 [0] [] rfl Tryz.call15 rfl rfl rfl (by decide) (by decide) (within_spec a 1001 (by omega) (by omega) _) (fun v17 Ps17 hR17 => ?_)))))
 obtain ⟨rfl,rfl⟩:=hR17
 obtain ⟨n,hn,hn2⟩ : ∃ n : Nat,a % 1001 = (n : Int) ∧ n ≤ 1000:=⟨(a % 1001).toNat,by omega,by omega⟩
 rw [hn]
 refine (G9 rfl rfl (N9 (X9 ?_)))
 refine Q9 (R9 (M9 rfl rfl (Lc9 rfl rfl (by decide) (OpT_make (r:=301) (m:=n) rfl Tryz.underlying36 TI.hi5 TI.hz5 TI.hs5 rfl rfl (by rw [TI.hby5]; omega) (by unfold maxLen; omega) ((made_one _ _).trans (made_bytes n)) (fun v19 => ?_)))))
 refine Lt9 (P':=rowB 5 v19 (mixS9 n 0)) (r:=301) rfl (fun h hp => rowB_mk hp (by rw [mix9_len (Nat.zero_le _)]) (by rw [mix9_zero])) ?_
 refine (G9 rfl rfl (N9 (X9 ?_)))
 refine Q9 (Q9 (R9 (G9 rfl rfl (N9 (X9 ?_)))))
 refine W_block ?_
 refine W_loop (α:=Nat) (fun x => [(0,.int .i64 (n : Int)),(3,v19),(4,.int .i64 (x : Int))]) (fun x => [(0,F),(301,rowB 5 v19 (mixS9 n x))]) (fun x => x ≤ n) (fun x => n - x) (0) (Nat.zero_le _) (a9 rfl) (a9 rfl) (fun x hx => ?_)
 have hml:=mix9_len hx
 refine Q9 (Q9 (R9 (M9 rfl rfl (M9 rfl rfl (L9 rfl (Pn9 rfl rfl rfl (run_lss _ _ _ _ _ _)) (N9 (X9 ?_)))))))
 refine C9 rfl (fun hc22 => ?_) (fun hc22 => ?_)
 ·
  have hlt : x < n:=by have:=of_decide_eq_true hc22; omega
  refine K9 (X9 ?_)
  refine Q9 ?_
  refine W_block ?_
  refine Q9 (R9 (M9 rfl rfl (M9 rfl rfl (M9 rfl rfl (L9 rfl (Pn9 rfl rfl rfl (run_quo _ _ _ _ _ (by omega))) ?_)))))
  rw [show (x : Int) / 64 = ((x / 64 : Nat) : Int) from rfl]
  refine (L9 rfl (Pu_conv rfl rfl (conv_byte _ _ Tryz.runUnderlying3 Tryz.runUnderlying5)) (L9 rfl (Pu_idxS1 (r:=301) rfl Tryz.runUnderlying36 Tryz.sizeOf5 rfl rfl rfl rowB_rd (by omega)) (Lc09 rfl rfl (OpT_storeS1 (r:=301) rfl Tryz.sizeOf5 rfl rfl rfl rfl (by show _ < (bs _).length; rw [bs_length]; omega) rfl ?_))))
  refine Lt9 (P':=rowB 5 v19 ((mixS9 n x).set x (byte ((x / 64 : Nat) : Int)))) (r:=301) rfl (fun h hp => rowB_mk hp (by simp only [List.length_set]) (by simp only [bs_setI,Int.toNat_natCast])) ?_
  refine (N9 (X9 ?_))
  refine Q9 (R9 (M9 rfl rfl (L9 rfl (Pn9 rfl rfl rfl (run_rem _ _ _ _ _ (by omega))) ?_)))
  rw [show (x : Int) % 64 = ((x % 64 : Nat) : Int) from rfl]
  refine (L9 rfl (Pn9 rfl rfl rfl (run_gtr _ _ _ _ _ _)) (N9 (X9 ?_)))
  refine C9 rfl (fun hc33 => ?_) (fun hc33 => ?_)
  ·
   have hz : ¬ x % 64 = 0:=by have:=of_decide_eq_true hc33; omega
   refine R9 (M9 rfl rfl (M9 rfl rfl (M9 rfl rfl (L9 rfl (Pn9 rfl rfl rfl (run_rem _ _ _ _ _ (by omega))) ?_))))
   rw [show (x : Int) % 64 = ((x % 64 : Nat) : Int) from rfl]
   refine (L9 rfl (Pu_conv rfl rfl (conv_byte _ _ Tryz.runUnderlying3 Tryz.runUnderlying5)) (L9 rfl (Pu_idxS1 (r:=301) rfl Tryz.runUnderlying36 Tryz.sizeOf5 rfl rfl rfl rowB_rd (by rw [List.length_set]; omega)) (Lc09 rfl rfl (OpT_storeS1 (r:=301) rfl Tryz.sizeOf5 rfl rfl rfl rfl (by show _ < (bs _).length; rw [bs_length]; rw [List.length_set]; omega) rfl ?_))))
   refine Lt9 (P':=rowB 5 v19 (((mixS9 n x).set x (byte ((x / 64 : Nat) : Int))).set x (byte ((x % 64 : Nat) : Int)))) (r:=301) rfl (fun h hp => rowB_mk hp (by simp only [List.length_set]) (by simp only [bs_setI,Int.toNat_natCast])) ?_
   refine (N9 (X_block (X9 ?_)))
   refine R9 (M9 rfl rfl (L9 rfl (Pn9 rfl rfl rfl (run_add _ _ _ _ _ (by omega))) (G9 rfl rfl (N9 ?_))))
   exact Xr9 (x + 1) (by omega) (by omega) ⟨rfl,rfl,rfl,trivial⟩ ⟨rfl,look_eq rfl (by rw [mix9_twice hlt hz]),trivial⟩
  ·
   have hz : x % 64 = 0:=by have:=of_decide_eq_false hc33; omega
   refine K9 (X_block (X9 ?_))
   refine R9 (M9 rfl rfl (L9 rfl (Pn9 rfl rfl rfl (run_add _ _ _ _ _ (by omega))) (G9 rfl rfl (N9 ?_))))
   exact Xr9 (x + 1) (by omega) (by omega) ⟨rfl,rfl,rfl,trivial⟩ ⟨rfl,look_eq rfl (by rw [mix9_plain hlt hz]),trivial⟩
 ·
  have hge : x = n:=by have:=of_decide_eq_false hc22; omega
  refine W_exit (X_then_exit (X_then_exit (X_block_exit (X9 ?_))))
  refine Q9 ?_
  refine Wt9 (P':=rowB 5 v19 (dS n)) 301 rfl (fun h hp => by rw [hge,mix9_all] at hp; exact hp) ?_
  refine W_fact (r:=301) rfl (fun h hp => rd_one (rowB_rd h hp)) (fun (ho19 : v19.oneCell' = true) => ?_)
  refine Wt9 (P':=datI [itS v19 n]) 301 rfl (fun h hp => itS_dat (rowB_rd h hp)) ?_
  refine R9 (M9 rfl rfl (L9 rfl (Pu_build (V:=.agg (itC (itS v19 n)).toArray) [(0,1),(1,1)] ([sV [],.slice none 0 0]) rfl rfl (by kernel_rfl) (by kernel_rfl) (.one rfl rfl (by show 0 < 2; decide) rfl (.one rfl ho19 (by show 1 < 2; decide) rfl (.nil _))) rfl) (Lc9 rfl rfl (by decide) (OpT_buildRows (r:=302) [itC (itS v19 n)] rfl rfl Tryz.runUnderlying24 Tryz.sizeOf38 Tryz.zeroValue38 rfl (by decide) rfl (by decide) (by intro r hr; simp at hr; rw [hr]; rfl) rfl (fun v42 => ?_)))))
  refine Lt9 (P':=rowR itC 2 38 v42 [itS v19 n]) (r:=302) rfl (fun h hp => hp) ?_
  refine (G9 rfl rfl (N9 (X9 ?_)))
  refine Q9 (Q9 ?_)
  refine W_join [302,301] 600 (itemsP v42 [itS v19 n]) rfl (by decide) (fun h hs => hs) ?_
  have hxb:=build_f v19 hn2
  have hxs:=itS_short v19 hn2
  refine R9 (M9 rfl rfl (Lc9 rfl rfl (by decide) (Oc9 700 [0,600] [] rfl Tryz.call18 rfl rfl rfl (by decide) (by decide) (meets_spec v42 (.slice none 0 0) [itS v19 n] [] hxb build_none (by simp) (by decide) (short_big hxs) (fun x hx => absurd hx (by simp)) _ (rs9 1 rfl (fun _ hp => itP_rd hp)) (datI_star 1 rfl (fun _ hp => itP_dat hp)) (fun h _ => rd_nil0) (fun h _ x hx => absurd hx (by simp))) (fun v44 Ps44 hR44 => ?_))))
  obtain ⟨rfl,mm,rfl,hmm⟩:=hR44
  refine (N9 (X9 ?_))
  refine C9 rfl (fun hc44 => ?_) (fun hc44 => ?_)
  ·
   refine Q9 (R9 (G9 rfl rfl (N9 (X9 ?_))))
   refine W_ret (X_then_ret ?_)
   exact Xq9 [] (Ps:=[]) (res1 Tryz.results4 rfl) rfl (by decide) ⟨rfl,rfl⟩
  ·
   refine K9 (X9 ?_)
   refine Q9 (R9 (M9 rfl rfl (Lc9 rfl rfl (by decide) (Oc9 800 [0,600] [] rfl Tryz.call16 rfl rfl rfl (by decide) (by decide) (build_spec v42 [itS v19 n] (by simp) (short_big hxs) _ (rs9 1 rfl (fun _ hp => itP_rd hp)) (datI_star 1 rfl (fun _ hp => itP_dat hp)) (ts9 0 rfl hT)) (fun v47 Ps47 hR47 => ?_)))))
   obtain ⟨w0,id,l0,rfl,rfl,hid,_,hgood⟩:=hR47
   refine WL_fact (r:=800) rfl (fun h hp => treeP_one hp) (fun (hvo : w0.oneCell' = true) => ?_)
   rw [hxb]
   refine (M9 rfl rfl (L9 rfl (Pe9 rfl rfl rfl) (L9 rfl (Pe9 rfl rfl rfl) (Lc9 rfl rfl (by decide) (OpT_alloc (r:=801) (cs:=(treeC (.slice none 0 0) zeroId)) rfl (zero_run (by kernel_rfl : (Tryz.prog.info? 31).bind (·.zero) = some (.agg (treeC (.slice none 0 0) zeroId).toArray))) rfl (fun g801 => (Lc09 rfl rfl (OpT_storeAll (r:=801) rfl Tryz.sizeOf31 rfl rfl rfl (treeC_length zeroId_length) (treeC_length hid) (treeC_one hvo) ?_))))))))
   refine (G9 rfl rfl (N9 (X9 ?_)))
   refine Q9 ?_
   refine W_openTree 800 2000 rfl (fun es hes => ?_)
   obtain ⟨Ta,hfa,hid2,hta⟩:=hgood hxb
   obtain ⟨hel,hdl⟩:=tree_small hfa hxb (by simp) hxs hta hes
   have hmet:=(hmm hc44).left
   have hw3:=whole3 hxb hfa hta hmet
   rw [← hes] at hw3
   subst hid2
   have hcn:=size_count hn2 hfa hta hmet
   rw [← hes,List.length_map] at hcn
   have hpath : pathV (viewT (es.map toTB)) (idT Ta) [47,102] = (ndF 1 (dS n),0):=(path_file hw3 hxb hxs (List.mem_singleton.2 rfl)).2
   have hlv:=size_lev hn2
   have hupc:=upC_small (n + 1) ((n + 63) / 64) (by omega)
   have hupl:=upL_le (n + 1) ((n + 63) / 64)
   refine R9 (L9 rfl (Px9 (r:=801) rfl Tryz.isAgg31 Tryz.sizeOf31 rfl rfl (treeC_length hid) (load_all (treeC_length hid))) (Lc9 rfl rfl (by decide) (Oc9 2100 [0,600,801,2000,2001] [] rfl Tryz.call19 rfl rfl rfl (by decide) (by decide) (find_spec es w0 (idT Ta) hid hel hdl _ (rs9 3 rfl (fun h hp => by have h2:=rp9 hp; rw [List.length_map]; exact h2)) (ds9 4 rfl (fun _ h => h)) (ts9 0 rfl hT) [47,102] (by decide)) (fun v52 Ps52 hR52 => ?_))))
   obtain ⟨rfl,rfl⟩:=hR52
   rw [hpath]
   refine (M9 rfl rfl (L9 rfl (Pe9 rfl rfl rfl) (L9 rfl (Pe9 rfl rfl rfl) (Lc9 rfl rfl (by decide) (OpT_alloc (r:=2101) (cs:=(nodeC 0 0 0 zeroId)) rfl (zero_run (by kernel_rfl : (Tryz.prog.info? 42).bind (·.zero) = some (.agg (nodeC 0 0 0 zeroId).toArray))) rfl (fun g2101 => (Lc09 rfl rfl (OpT_storeAll (r:=2101) rfl Tryz.sizeOf42 rfl rfl rfl (nodeC_length zeroId_length) (ndC_length (topF_length _)) (one_node _ _ _ _) ?_))))))))
   refine (G9 rfl rfl (N9 (X9 ?_)))
   refine Q9 (Q9 (R9 (M9 rfl rfl (L9 rfl (Pn9 rfl rfl rfl (run_neq _ _ _ _ _ _)) (M9 rfl rfl (WL_gPT rfl rfl rfl rfl rfl (by decide) (Pm9 rfl rfl) (WL_gPT rfl rfl rfl rfl rfl (by decide) (Pn9 rfl rfl rfl (run_neq _ _ _ _ _ _)) (L9 rfl (Pu_pickF rfl rfl rfl rfl) (M9 rfl rfl (WL_gPT rfl rfl rfl rfl rfl (by decide) (F9 1 rfl rfl) (WL_gPT rfl rfl rfl rfl rfl (by decide) (Pb9 (r:=2101) rfl Tryz.isAgg3 rfl rfl rfl) (WL_gPT rfl rfl rfl rfl rfl (by decide) (Pm9 rfl rfl) (WL_gPT rfl rfl rfl rfl rfl (by decide) (Pn9 rfl rfl rfl (run_neq _ _ _ _ _ _)) (L9 rfl (Pu_pickF rfl rfl rfl rfl) (N9 (X9 ?_))))))))))))))))
   refine W_false rfl ((by show (false || !decide ((((dS n).length : Nat) : Int) = (n : Int))) = false; rw [dS_length]; simp)) ?_
   refine K9 (X9 ?_)
   refine Q9 (R9 (M9 rfl rfl (L9 rfl (Pn9 rfl rfl rfl (run_add _ _ _ _ _ (by omega))) (L9 rfl (Pn9 rfl rfl rfl (run_quo _ _ _ _ _ (by omega))) ?_))))
   rw [show ((n : Int) + 63) / 64 = (((n + 63) / 64 : Nat) : Int) by omega]
   refine (G9 rfl rfl (N9 (X9 ?_)))
   refine Q9 (R9 (M9 rfl rfl (G9 rfl rfl (G9 rfl rfl (N9 (X9 (Q9 (Q9 (R9 (M9 rfl rfl (G9 rfl rfl (N9 (X9 ?_)))))))))))))
   refine W_block ?_
   refine W_loop (α:=Nat × Nat × Nat × Nat) (fun z => [(6,.pointer (some ⟨g801,0,none⟩)),(8,.pointer (some ⟨g2101,0,none⟩)),(11,.int .i64 (z.2.1 : Int)),(12,.int .i64 (z.2.2.1 : Int)),(13,.int .i64 (z.1 : Int))]) (fun z => [(0,F),(2000,rowP 59 35 w0 (es).length (recC bvC ((es).map (fun p : EB => p.1)))),(801,blk g801 31 (treeC w0 (idT Ta))),(2101,blk g2101 42 (ndC (ndF 1 (dS n))))]) (fun z => SzI n z.1 z.2.1 z.2.2.1 z.2.2.2) (fun z => z.1) (((n + 63) / 64,(n + 63) / 64,0,n + 1)) (SzI.start hn2) (a9 rfl) (a9 rfl) (fun z hz => ?_)
   have hsm:=hz.small hn2
   have h16:=hz.k16
   refine Q9 (Q9 (R9 (M9 rfl rfl (L9 rfl (Pn9 rfl rfl rfl (run_gtr _ _ _ _ _ _)) (N9 (X9 ?_))))))
   refine C9 rfl (fun hc73 => ?_) (fun hc73 => ?_)
   ·
    have hk1 : 1 < z.1:=by have:=of_decide_eq_true hc73; omega
    refine K9 (X9 ?_)
    refine Q9 ?_
    refine W_block ?_
    refine Q9 (R9 (M9 rfl rfl (L9 rfl (Pn9 rfl rfl rfl (run_add _ _ _ _ _ (by omega))) (L9 rfl (Pn9 rfl rfl rfl (run_quo _ _ _ _ _ (by omega))) ?_))))
    rw [show ((z.1 : Int) + 7) / 8 = (((z.1 + 7) / 8 : Nat) : Int) by omega]
    refine (G9 rfl rfl (N9 (X9 ?_)))
    refine R9 (M9 rfl rfl (M9 rfl rfl (L9 rfl (Pn9 rfl rfl rfl (run_add _ _ _ _ _ (by omega))) (G9 rfl rfl (N9 (X_block (X9 (R9 (M9 rfl rfl (L9 rfl (Pn9 rfl rfl rfl (run_add _ _ _ _ _ (by omega))) (G9 rfl rfl (N9 ?_))))))))))))
    obtain ⟨f2,_,hst⟩:=hz.step hk1
    exact Xr9 ((z.1 + 7) / 8,z.2.1 + (z.1 + 7) / 8,z.2.2.1 + 1,f2) hst (by dsimp only; omega) (a9 rfl) (a9 rfl)
   ·
    have hk1 : ¬ 1 < z.1:=by have:=of_decide_eq_false hc73; omega
    obtain ⟨hd1,hd2⟩:=hz.done hk1
    refine W_exit (X_then_exit (X_then_exit (X_block_exit (X9 ?_))))
    refine Q9 ?_
    have hg : decide ((ndF 1 (dS n)).2.2.1 = (z.2.2.1 : Int)) = true:=decide_eq_true (by show (lev ((dS n).length : Int) : Int) = _; omega)
    refine R9 (L9 rfl (F9 2 rfl rfl) (L9 rfl (Pb9 (r:=2101) rfl Tryz.isAgg3 rfl rfl rfl) (M9 rfl rfl (L9 rfl (Pn9 rfl rfl rfl (run_eql _ _ _ _ _ _)) (M9 rfl rfl (WL_gPT rfl rfl rfl (by rw [hg]; rfl) rfl (by decide) (F9 0 rfl rfl) (WL_gPT rfl rfl rfl (by rw [hg]; rfl) rfl (by decide) (Pb9 (r:=801) rfl Tryz.isAgg27 rfl rfl rfl) (WL_gPT rfl rfl rfl (by rw [hg]; rfl) rfl (by decide) (Pl9 (r:=2000) rfl Tryz.runUnderlying27 rfl rfl (fun _ h => rp9 h)) (WL_gPT rfl rfl rfl (by rw [hg]; rfl) rfl (by decide) (Pm9 rfl rfl) (WL_gPT rfl rfl rfl (by rw [hg]; rfl) rfl (by decide) (Pn9 rfl rfl rfl (run_add _ _ _ _ _ (by omega))) (WL_gPT rfl rfl rfl (by rw [hg]; rfl) rfl (by decide) (Pn9 rfl rfl rfl (run_eql _ _ _ _ _ _)) (L9 rfl (Pu_pickT rfl rfl hg rfl) (G9 rfl rfl (N9 (X9 ?_)))))))))))))))
    refine W_ret ?_
    exact Xq9 [] (Ps:=[]) (res1 Tryz.results4 rfl) rfl (by decide) ⟨by rw [decide_eq_true (show ((es.length : Nat) : Int) = (z.2.1 : Int) + 3 by omega)] <;> rfl,rfl⟩
end Go.Proofs.YthkdkmaacjpneaaGreatDoor
namespace Go.Proofs.YthkdkmaacjpneaaGreatDoor
open Go.RowKit Go.ChangeShapes Go.WideShapes Go.Deep

theorem wf_i64 {n : Int} (h : (Lit.int .i64 n).wf = true) : -9223372036854775808 ≤ n ∧ n ≤ 9223372036854775807:=by
  simp only [Lit.wf,Bool.and_eq_true,decide_eq_true_eq] at h
  have h1 : IntKind.min .i64 = -9223372036854775808:=by decide
  have h2 : IntKind.max .i64 = 9223372036854775807:=by decide
  rw [h1,h2] at h
  exact h
theorem wf_u8 {n : Int} (h : (Lit.int .u8 n).wf = true) : 0 ≤ n ∧ n ≤ 255:=by
  simp only [Lit.wf,Bool.and_eq_true,decide_eq_true_eq] at h
  have h1 : IntKind.min .u8 = 0:=by decide
  have h2 : IntKind.max .u8 = 255:=by decide
  rw [h1,h2] at h
  exact h

def RdI (w : World) (v : Value) (zs : List Int) : Prop:=Rd w 1 v zs.length (zs.map (Value.int .i64))
def I64 (zs : List Int) : Prop:=∀ z ∈ zs,-9223372036854775808 ≤ z ∧ z ≤ 9223372036854775807
def RdT (w : World) (v : Value) (l : List Bool) : Prop:=Rd w 1 v l.length (l.map Value.bool)
def RdR (w : World) (v : Value) (ps : List (Value × List UInt8)) : Prop:=Rd w 1 v ps.length (ps.map (·.1)) ∧ ∀ p ∈ ps,RdB w p.1 p.2

section
variable {H : Type} {enc : TypeId × Value → H} {P : Program} {w : World} {base : Nat} {spare : Nat → Bool} {held : Bool}

end

section
variable {H : Type} {enc : TypeId × Value → H} {P : Program} {w : World} {base b0 : Nat} {spare : Nat → Bool} {held : Bool} {r : Reach} {t : TypeId} {v : Value} {d : DataW H} {ps : List MemPlace}
theorem op_int (ht : P.underlying t = some (.int .i64)) (hv : Value.okWide P w r b0 t v) (h : DataW.Trod enc P w base spare held t v d ps) : ∃ n,v = .int .i64 n ∧ -9223372036854775808 ≤ n ∧ n ≤ 9223372036854775807:=by
  obtain ⟨n,rfl,_,_,hw⟩:=open_int ht hv h
  exact ⟨n,rfl,(wf_i64 hw).1,(wf_i64 hw).2⟩
end
end Go.Proofs.YthkdkmaacjpneaaGreatDoor
namespace Go.Proofs.YthkdkmaacjpneaaGreatDoor
open Go.RowKit Go.ChangeShapes Go.WideShapes Go.Deep
section
variable {H : Type} {enc : TypeId × Value → H} {P : Program} {w : World} {base : Nat} {spare : Nat → Bool} {held : Bool}
def Tr (enc : TypeId × Value → H) (P : Program) (w : World) (base : Nat) (spare : Nat → Bool) (held : Bool) (t : TypeId) (cs : List Value) : Prop:=∃ fuel x,DataW.trod enc P w base spare held fuel t cs = some x
theorem Tr.int {t : TypeId} {cs : List Value} (ht : P.underlying t = some (.int .i64)) (h : Tr enc P w base spare held t cs) : ∃ n,cs = [.int .i64 n] ∧ -9223372036854775808 ≤ n ∧ n ≤ 9223372036854775807:=by
  obtain ⟨f,x,h⟩:=h
  obtain ⟨n,rfl,_,hw⟩:=DataW.trod_int ht h
  exact ⟨n,rfl,wf_i64 hw⟩
theorem Tr.bool {t : TypeId} {cs : List Value} (ht : P.underlying t = some .bool) (h : Tr enc P w base spare held t cs) : ∃ b,cs = [Value.bool b]:=by
  obtain ⟨f,x,h⟩:=h
  obtain ⟨b,rfl,_⟩:=DataW.trod_bool ht h
  exact ⟨b,rfl⟩
theorem Tr.u8 {t : TypeId} {cs : List Value} (ht : P.underlying t = some (.int .u8)) (h : Tr enc P w base spare held t cs) : ∃ x,cs = [bv x]:=by
  obtain ⟨f,x,h⟩:=h
  obtain ⟨n,rfl,_,hw⟩:=DataW.trod_int ht h
  have:=wf_u8 hw
  refine ⟨UInt8.ofNat n.toNat,?_⟩
  simp only [bv]
  congr 2
  rw [UInt8.toNat_ofNat']
  omega
theorem Tr.struct {t : TypeId} {cs : List Value} {fs : Array Field} (ht : P.underlying t = some (.struct fs)) (h : Tr enc P w base spare held t cs) : cs.length = P.cellsOf t ∧ ∀ (i : Nat) (f : Field),fs[i]? = some f → Tr enc P w base spare held f.type ((cs.drop f.offset).take (P.cellsOf f.type)):=by
  obtain ⟨f,x,h⟩:=h
  obtain ⟨xs,n,_,_,hl,hx,hf⟩:=DataW.trod_struct ht h
  refine ⟨hl,fun i f hi => ?_⟩
  have h1:=hf i f hi
  have hlt : i < xs.length:=by rw [hx]; exact (Array.getElem?_eq_some_iff.1 hi).1
  rw [List.getElem?_eq_getElem hlt] at h1
  exact ⟨n,_,h1⟩
theorem Tr.array {t e : TypeId} {n : Nat} {cs : List Value} (ht : P.underlying t = some (.array n e)) (h : Tr enc P w base spare held t cs) : cs.length = P.cellsOf t ∧ ∀ i,i < n → Tr enc P w base spare held e ((cs.drop (i * P.cellsOf e)).take (P.cellsOf e)):=by
  obtain ⟨f,x,h⟩:=h
  obtain ⟨xs,m,_,_,hl,hx,hf⟩:=DataW.trod_array ht h
  refine ⟨hl,fun i hi => ?_⟩
  have h1:=hf i hi
  rw [List.getElem?_eq_getElem (by omega)] at h1
  exact ⟨m,_,h1⟩
theorem Tr.bytes {t e : TypeId} {n : Nat} {cs : List Value} (ht : P.underlying t = some (.array n e)) (he : P.underlying e = some (.int .u8)) (hc : P.cellsOf e = 1) (hn : P.cellsOf t = n) (h : Tr enc P w base spare held t cs) : ∃ l,cs = bs l ∧ l.length = n:=by
  obtain ⟨hl,hf⟩:=h.array ht
  rw [hn] at hl
  rw [hc] at hf
  have key : ∀ (cs : List Value),(∀ i,i < cs.length → Tr enc P w base spare held e ((cs.drop (i * 1)).take 1)) → ∃ l,cs = bs l:=by
    intro cs
    induction cs with
    | nil => intro _; exact ⟨[],rfl⟩
    | cons u cs ih =>
      intro h
      obtain ⟨l,rfl⟩:=ih (fun i hi => by
        have:=h (i + 1) (by simpa using hi)
        simpa using this)
      obtain ⟨x,hx⟩:=(h 0 (by simp)).u8 he
      simp at hx
      exact ⟨x :: l,by simp [bs,hx]⟩
  obtain ⟨l,rfl⟩:=key cs (fun i hi => hf i (by omega))
  exact ⟨l,rfl,by rw [← hl,bs_length]⟩
end
section
variable {H : Type} {enc : TypeId × Value → H} {P : Program} {w : World} {base b0 : Nat} {spare : Nat → Bool} {held : Bool} {r : Reach} {t : TypeId} {v : Value} {d : DataW H} {ps : List MemPlace}
end
end Go.Proofs.YthkdkmaacjpneaaGreatDoor
namespace Go.Proofs.YthkdkmaacjpneaaGreatDoor
open Go.RowKit Go.ChangeShapes Go.WideShapes Go.Deep
section
variable {H : Type} {enc : TypeId × Value → H} {P : Program} {w : World} {base : Nat} {spare : Nat → Bool} {held : Bool}
end
end Go.Proofs.YthkdkmaacjpneaaGreatDoor
namespace Go.Proofs.YthkdkmaacjpneaaGreatDoor
open Go.RowKit Go.ChangeShapes Go.WideShapes Go.Deep
section
variable {H : Type} {enc : TypeId × Value → H} {P : Program} {w : World} {base b0 : Nat} {spare : Nat → Bool} {held : Bool} {r : Reach} {t : TypeId} {v : Value} {d : DataW H} {ps : List MemPlace}
end
open Go.RowKit
theorem treeSizes_any (W : World) (hT : ∀ h,orig W h → tabsP h) (a0 : Int) (lo0 : -9223372036854775808 ≤ a0) (hi0 : a0 ≤ 9223372036854775807) :
    Calls Tryz.prog 4 #[.int .i64 a0] W fun e W' => e = .returned (.bool true) ∧ Chg [] W W' :=
  calls_law ((treeSizes_spec a0 (orig W) hT).imp fun v Ps h => h.1)
end Go.Proofs.YthkdkmaacjpneaaGreatDoor
namespace Go.Proofs.YthkdkmaacjpneaaGreatDoor
open Go.RowKit Go.Lib
set_option maxRecDepth 100000
theorem first_eq : Go.Pinned.utf8First = firstData:=by kernel_rfl
theorem accept_eq : (Rows.laid_unicode_utf8_acceptRanges : DataW Unit) = acceptData:=by kernel_rfl
def laidL : List (String × DataW Unit):=[("unicode/utf8.acceptRanges",Rows.laid_unicode_utf8_acceptRanges),("unicode/utf8.first",Rows.laid_unicode_utf8_first)]
theorem tabs_of_laid {W : World} (h : laidMetH Tryz.prog laidL W) (hsh : W.ShapedOpen Tryz.prog) : ∀ h,orig W h → tabsP h:=by
  rw [MakeChecks.laidMetH_plain _ _ _ (by kernel_rfl)] at h
  have h3 : VarReads Tryz.prog W "unicode/utf8.first" firstData:=by
    rw [← first_eq]
    exact laidMet.reads h (List.mem_cons_of_mem _ List.mem_cons_self)
  have h4 : VarReads Tryz.prog W "unicode/utf8.acceptRanges" acceptData:=by
    rw [← accept_eq]
    exact laidMet.reads h List.mem_cons_self
  refine orig_tabs (utf8Tabs_of_reads lays260 laysU h3 h4) ?_
  exact cell_of_shapedOpen_int (zero:=#[.int .i64 0]) (t:=3) hsh (of_decide_eq_true (by kernel_rfl)) (by kernel_rfl) rfl (by kernel_rfl) (by kernel_rfl) Tryz.underlying3
def lay (cs : List Value) : Obj → Obj
  | .cells _ t frozen => .cells cs.toArray t frozen
  | o => o
def firstCells : List Value:=(List.range 256).map fun c => Value.int .u8 (firstT c : Int)
def acceptCells : List Value:=((List.range 16).map fun i => [Value.int .u8 (accLo i : Int),Value.int .u8 (accHi i : Int)]).flatten
noncomputable def laidWorld (os : Os) : World :=
  { World.holding Tryz.prog os ⟨#[],#[],[]⟩ with heap:=((World.holding Tryz.prog os ⟨#[],#[],[]⟩).heap.modify 1 (lay firstCells)).modify 2 (lay acceptCells) }
theorem laid_met (os : Os) (args : Array Value) : laidMet Tryz.prog laidL ((laidWorld os).forCall (fun _ _ => 0) ⟨#[],args,[]⟩).memory :=
  laidMet_of_run' 8 (by kernel_rfl) (by kernel_rfl)
end Go.Proofs.YthkdkmaacjpneaaGreatDoor
