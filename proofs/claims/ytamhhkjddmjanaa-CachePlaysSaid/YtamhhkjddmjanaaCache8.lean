/- Caches: plain words of the law that plays against the document. -/
import Derived.Test.YtamhhkjddmjanaaCache7
namespace Go.Proofs.Ytamhhkjddmjanaa
open Go.RowKit
set_option linter.unusedVariables false
set_option linter.unusedSimpArgs false
def newE (n : Int) : Int := if (decide (n < 0) || decide (1073741824 < n)) = true then 1 else 0
theorem getR_reverse {l : Ents} (hn : (keys l).Nodup) (k : List UInt8) : getR l.reverse k = (getC l k).reverse := by
  unfold getR getC
  rw [lookup_reverse hn]
  cases l.lookup k with
  | none => rfl
  | some d => show (k, d) :: dropK k l.reverse = (dropK k l ++ [(k, d)]).reverse; rw [dropK_reverse hn]; simp
theorem calls_take {l : List (Bool × Int × Int)} {i : Nat} (h : i < l.length) : ((callsC l).drop (i * 3)).take 3 = [.bool (callAt l i).1, .int .i64 (callAt l i).2.1, .int .i64 (callAt l i).2.2] := by
  rw [callsC_drop]
  have hc : callAt l i = l[i] := by simp [callAt, h]
  rw [List.drop_eq_getElem_cons h, hc]
  rfl
/-- The first j filled. -/
def fillTo (n j : Nat) (c : UInt8) : List UInt8 := List.replicate j c ++ List.replicate (n - j) 0
theorem fillTo_length {n j : Nat} {c : UInt8} (h : j ≤ n) : (fillTo n j c).length = n := by simp [fillTo]; omega
theorem fillTo_zero (n : Nat) (c : UInt8) : fillTo n 0 c = List.replicate n 0 := by simp [fillTo]
theorem fillTo_all (n : Nat) (c : UInt8) : fillTo n n c = List.replicate n c := by simp [fillTo]
theorem fillTo_set {n j : Nat} {c : UInt8} (h : j < n) : (bs (fillTo n j c)).set j (bv c) = bs (fillTo n (j + 1) c) := by
  have e : List.replicate (n - j) (0 : UInt8) = 0 :: List.replicate (n - (j + 1)) 0 := by
    rw [show n - j = (n - (j + 1)) + 1 by omega, List.replicate_succ]
  unfold fillTo
  rw [e]
  simp [bs, List.set_append, List.replicate_succ', bv]
end Go.Proofs.Ytamhhkjddmjanaa
