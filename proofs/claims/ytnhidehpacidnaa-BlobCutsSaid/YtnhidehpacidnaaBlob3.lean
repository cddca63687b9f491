/- Blocks: what is written is read again; inodes compared. -/
import Derived.Test.YtnhidehpacidnaaBlob2
import Derived.Test.YtnhidehpacidnaaBlobC
import Derived.Laws.StructEq
namespace Go.Proofs.Ytnhidehpacidnaa
open Go.RowKit
set_option linter.unusedVariables false
set_option linter.unusedSimpArgs false
theorem at0_append_left {a b : List UInt8} {k : Nat} (h : k < a.length) : at0 (a ++ b) k = at0 a k := by simp [at0, List.getElem?_append_left h]
theorem val_append {a b : List UInt8} : ∀ k, k ≤ a.length → val (a ++ b) k = val a k
  | 0, _ => rfl
  | k + 1, h => by rw [val, val, val_append k (by omega), at0_append_left (by omega)]
theorem val_num (s : Int) (h0 : 0 ≤ s) (h1 : s < 4294967296) : (val (numB s 4) 4 : Int) = s := by
  rw [numB_four, val_four]
  have e : ∀ k : Nat, s.fdiv (2 ^ k) = s / 2 ^ k := fun k => Int.fdiv_eq_ediv_of_nonneg _ (by apply Int.pow_nonneg; omega)
  have e24 := byte_toNat (s.fdiv (2 ^ 24))
  have e16 := byte_toNat (s.fdiv (2 ^ 16))
  have e8 := byte_toNat (s.fdiv (2 ^ 8))
  have e0 := byte_toNat s
  rw [e, show (2 : Int) ^ 24 = 16777216 from by decide] at e24
  rw [e, show (2 : Int) ^ 16 = 65536 from by decide] at e16
  rw [e, show (2 : Int) ^ 8 = 256 from by decide] at e8
  show (((byte (s.fdiv (2 ^ 24))).toNat * 2 ^ 24 + (byte (s.fdiv (2 ^ 16))).toNat * 2 ^ 16 + (byte (s.fdiv (2 ^ 8))).toNat * 2 ^ 8 + (byte s).toNat : Nat) : Int) = s
  rw [e, e, e, show (2 : Int) ^ 24 = 16777216 from by decide, show (2 : Int) ^ 16 = 65536 from by decide, show (2 : Int) ^ 8 = 256 from by decide]
  omega
theorem byte_small {n : Int} (h0 : 0 ≤ n) (h1 : n < 256) : ((byte n).toNat : Int) = n := by rw [byte_toNat]; omega
theorem lev_le (s : Int) : lev s ≤ 7 := by unfold lev; repeat' split
                                           all_goals omega
theorem wrong_zero {k s l : Int} {top : List UInt8} (h : wrongN k s l top = 0) : (k = 1 ∨ k = 2) ∧ 0 ≤ s ∧ s ≤ 1048576 ∧ l = (lev s : Int) := by
  unfold wrongN at h
  split at h
  · cases h
  · split at h
    · cases h
    · rename_i h1 h2
      unfold wrongB at h2
      simp at h2
      omega
theorem parse_inode {k s l : Int} {top : List UInt8} (ht : top.length = 32) (h : wrongN k s l top = 0) : parseI (inodeB k s l top) = ((k, s, l, top), 0) := by
  obtain ⟨hk, hs0, hs1, hl⟩ := wrong_zero h
  have hll := lev_le s
  have hlen : (inodeB k s l top).length = 39 := by simp [inodeB, numB_length, ht]
  have e1 : at0 (inodeB k s l top) 0 = 105 := by simp [inodeB, at0]
  have e2 : ((at0 (inodeB k s l top) 1).toNat : Int) = k := by
    have : at0 (inodeB k s l top) 1 = byte k := by simp [inodeB, at0]
    rw [this]
    exact byte_small (by omega) (by omega)
  have d2 : (inodeB k s l top).drop 2 = numB s 4 ++ ([byte l] ++ top) := by simp [inodeB]
  have e3 : (val ((inodeB k s l top).drop 2) 4 : Int) = s := by
    rw [d2, val_append 4 (by rw [numB_length]; omega)]
    exact val_num s hs0 (by omega)
  have e4 : ((at0 (inodeB k s l top) 6).toNat : Int) = l := by
    have : at0 (inodeB k s l top) 6 = byte l := by
      rw [inodeB, numB_four]
      simp [at0]
    rw [this]
    exact byte_small (by omega) (by omega)
  have e5 : ((inodeB k s l top).drop 7).take 32 = top := by
    rw [inodeB, numB_four]
    simp [← ht]
  have hp : parsed (inodeB k s l top) = (k, s, l, top) := by unfold parsed; rw [e2, e3, e4, e5]
  unfold parseI
  rw [if_neg (by omega), hp, if_neg (by simp [e1, h]), if_neg (by omega)]
theorem innerE_zero {l : List (List UInt8)} (h : innerE l = 0) : 1 ≤ l.length ∧ l.length ≤ 8 := by
  unfold innerE at h
  split at h
  · cases h
  · split at h
    · cases h
    · omega
theorem flat_drop {l : List (List UInt8)} (h : Ids l) : ∀ i, i < l.length → (l.flatten.drop (i * 32)).take 32 = l.getD i [] := by
  induction l with
  | nil => intro i hi; simp at hi
  | cons x l ih =>
    intro i hi
    have hx := h x (by simp)
    cases i with
    | zero => simp [← hx]
    | succ i =>
      have := ih (fun y hy => h y (by simp [hy])) i (by simpa using hi)
      rw [List.flatten_cons, show (i + 1) * 32 = x.length + i * 32 by rw [hx]; omega, ← List.drop_drop, List.drop_left, this]
      rfl
theorem parse_inner {l : List (List UInt8)} (hl : Ids l) (h : innerE l = 0) : parseNE (innerR l) = 0 ∧ parseNL (innerR l) = l := by
  obtain ⟨h1, h2⟩ := innerE_zero h
  have hR : innerR l = [110, byte l.length] ++ l.flatten := by unfold innerR; rw [if_pos h, innerTo, List.take_length]
  have hlen : (innerR l).length = 2 + l.length * 32 := by rw [hR]; simp [flat_ids hl]; omega
  have e0 : at0 (innerR l) 0 = 110 := by rw [hR]; rfl
  have e1 : (at0 (innerR l) 1).toNat = l.length := by
    have : at0 (innerR l) 1 = byte l.length := by rw [hR]; rfl
    rw [this]
    have := byte_small (n := (l.length : Int)) (by omega) (by omega)
    omega
  have hE : parseNE (innerR l) = 0 := by
    unfold parseNE
    rw [if_neg (by omega), if_neg (by rintro (h | h | h); exact h e0; omega; omega), if_neg (by omega), if_neg (by omega)]
  refine ⟨hE, ?_⟩
  unfold parseNL
  rw [if_pos hE, e1]
  unfold idsOf
  apply List.ext_getElem?
  intro i
  rw [List.getElem?_map]
  by_cases hi : i < l.length
  · rw [List.getElem?_range hi, List.getElem?_eq_getElem hi, Option.map_some, hR, ← List.drop_drop]
    have := flat_drop hl i hi
    simp [hi] at this
    simp [this]
  · rw [List.getElem?_eq_none (by simpa using hi), List.getElem?_eq_none (by omega)]
    rfl
theorem parseNL_ids (b : List UInt8) : Ids (parseNL b) ∧ (parseNL b).length ≤ 8 := by
  unfold parseNL
  split
  · rename_i h
    unfold parseNE at h
    split at h
    · cases h
    · split at h
      · cases h
      · split at h
        · cases h
        · split at h
          · cases h
          · exact ⟨idsOf_ids (by omega), by rw [idsOf_length]; omega⟩
  · exact ⟨fun x hx => by simp at hx, by simp⟩
theorem parseI_top (b : List UInt8) : (parseI b).1.2.2.2.length = 32 := by
  unfold parseI
  repeat' split
  all_goals first | rfl | (simp [parsed]; omega)
/-- Inodes compared. -/
def nodeEq (k s l : Int) (top : List UInt8) (k' s' l' : Int) (top' : List UInt8) : Bool := k == k' && (s == s' && (l == l' && (top == top' && true)))
theorem run_nodeNe (k s l k' s' l' : Int) (top top' : List UInt8) (ht : top.length = 32) (ht' : top'.length = 32) (x y : Operand) (w : World) : ((do eqGuard .neq 27 x y (nodeV k s l top) (nodeV k' s' l' top'); binOp .neq 27 (nodeV k s l top) (nodeV k' s' l' top') : Sem Value)).run Try.prog w = .ok (.bool (!(nodeEq k s l top k' s' l' top'))) w := by
  have hid := run_equalIn_bytes w 9997 25 5 32 Try.underlying25 Try.underlying5 (fun w => by kernel_rfl) top top' ht ht'
  rw [show List.map Extern.Stop.cell top = bs top from rfl, show List.map Extern.Stop.cell top' = bs top' from rfl] at hid
  simp only [Nat.reduceAdd] at hid
  have p0 : ∀ (k s l : Int) (top : List UInt8), (part 3 (nodeC k s l top).toArray 0).run Try.prog w = .ok (.int .i64 k) w := fun k s l top => by simp [part, Try.isAgg3, nodeC]
  have p1 : ∀ (k s l : Int) (top : List UInt8), (part 3 (nodeC k s l top).toArray 1).run Try.prog w = .ok (.int .i64 s) w := fun k s l top => by simp [part, Try.isAgg3, nodeC]
  have p2 : ∀ (k s l : Int) (top : List UInt8), (part 3 (nodeC k s l top).toArray 2).run Try.prog w = .ok (.int .i64 l) w := fun k s l top => by simp [part, Try.isAgg3, nodeC]
  have p3 : ∀ (k s l : Int) (top : List UInt8), top.length = 32 → (part 25 (nodeC k s l top).toArray 3).run Try.prog w = .ok (.agg (bs top).toArray) w := fun k s l top h => by
    have e : (nodeC k s l top).toArray.extract 3 35 = (bs top).toArray := by
      apply Array.toList_inj.1
      rw [Array.toList_extract]
      exact take_top h
    simp [part, Try.isAgg25, Try.sizeOf25, e]
    exact take_top h
  have hi : ∀ a b : Int, (Op.equalIn 9999 3 (.int .i64 a) (.int .i64 b)).run Try.prog w = .ok (a == b) w := fun a b => run_equalIn_int (P := Try.prog) (w := w) 9998 3 .i64 .i64 a b Try.underlying3
  exact (run_structEq w (by kernel_rfl) Try.stoodInHeld27 (gs := [("Kind", 3, 0), ("Size", 3, 1), ("Levels", 3, 2), ("Top", 25, 3)]) (by kernel_rfl) Try.eqGuardType27
    (.cons (by decide) (p0 _ _ _ _) (p0 _ _ _ _) (hi _ _) (.cons (by decide) (p1 _ _ _ _) (p1 _ _ _ _) (hi _ _) (.cons (by decide) (p2 _ _ _ _) (p2 _ _ _ _) (hi _ _) (.cons (by decide) (p3 _ _ _ _ ht) (p3 _ _ _ _ ht') hid .nil)))) x y).2
end Go.Proofs.Ytnhidehpacidnaa
