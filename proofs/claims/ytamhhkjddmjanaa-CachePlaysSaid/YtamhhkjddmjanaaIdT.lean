/- Ids of the program: compared, made. -/
import Derived.Test.YtamhhkjddmjanaaIdL
import Derived.Test.YtamhhkjddmjanaaTi
import Derived.Stop.BytesEq
namespace Go.Proofs.Ytamhhkjddmjanaa
open Go.RowKit
set_option linter.unusedVariables false
/-- Ids compared. -/
theorem run_idEq (xs ys : List UInt8) (hx : xs.length = 32) (hy : ys.length = 32) (x y : Operand) (w : World) : ((do eqGuard .eql 33 x y (.agg (bs xs).toArray) (.agg (bs ys).toArray); binOp .eql 33 (.agg (bs xs).toArray) (.agg (bs ys).toArray) : Sem Value)).run Try.prog w = .ok (.bool (xs == ys)) w := by
  have h := run_equalIn_bytes w 9998 33 5 32 Try.underlying33 Try.underlying5 (fun w => by kernel_rfl) xs ys hx hy
  have hg : Try.prog.eqGuardType Try.prog.depth 33 = false := Try.eqGuardType33
  rw [show List.map Extern.Stop.cell xs = bs xs from rfl, show List.map Extern.Stop.cell ys = bs ys from rfl] at h
  simp only [Nat.reduceAdd] at h
  simp [eqGuard, binOp, Op.equal, Op.maxDepth, h, hg, program, Sem.run]
theorem run_idNe (xs ys : List UInt8) (hx : xs.length = 32) (hy : ys.length = 32) (x y : Operand) (w : World) : ((do eqGuard .neq 33 x y (.agg (bs xs).toArray) (.agg (bs ys).toArray); binOp .neq 33 (.agg (bs xs).toArray) (.agg (bs ys).toArray) : Sem Value)).run Try.prog w = .ok (.bool (!(xs == ys))) w := by
  have h := run_equalIn_bytes w 9998 33 5 32 Try.underlying33 Try.underlying5 (fun w => by kernel_rfl) xs ys hx hy
  have hg : Try.prog.eqGuardType Try.prog.depth 33 = false := Try.eqGuardType33
  rw [show List.map Extern.Stop.cell xs = bs xs from rfl, show List.map Extern.Stop.cell ys = bs ys from rfl] at h
  simp only [Nat.reduceAdd] at h
  simp [eqGuard, binOp, Op.equal, Op.maxDepth, h, hg, program, Sem.run]
section
variable {E : Env} {n : Nat} {K : Slots} {L : Res} {o : Oper}
theorem Pu_idZero (ho : o.op = .build 33 #[]) : Pure Try.prog E n o K L (.agg (bs zeroId).toArray) := fun a w hA hS => by
  have h := run_build (P := Try.prog) w 33 #[] (bs zeroId).toArray (by kernel_rfl)
  simp [execOp, ho, h]
end
end Go.Proofs.Ytamhhkjddmjanaa
