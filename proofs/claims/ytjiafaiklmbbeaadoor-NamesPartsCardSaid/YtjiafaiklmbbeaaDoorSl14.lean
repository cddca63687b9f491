/- Symbolic states, part 14: bits of bytes and of runes; an index into a string at a known place. -/
import Derived.Test.YtjiafaiklmbbeaaDoorSl13
namespace Go.Proofs.YtjiafaiklmbbeaaDoor
open Go.RowKit
set_option linter.unusedVariables false
set_option linter.unusedSimpArgs false
theorem at0_drop (l : List UInt8) (i j : Nat) : (l.drop i).getD j 0 = at0 l (i + j) := by simp [at0, List.getElem?_drop]
section
variable {P : Program} {E : Env} {n : Nat} {K : Slots} {L : Res} {o : Oper} {C : Value → Res → Prop}
theorem Pu_idxStrN (k : Nat) {t : TypeId} {x y : Operand} {l : List UInt8} {kd : IntKind} {ix : Int} (ho : o.op = .index t x y) (hu : P.underlying t = some .string) (hx : evK K x = some (sV l)) (hy : evK K y = some (.int kd ix)) (hik : ix = (k : Int)) (hi : k < l.length) : Pure P E n o K L (bv (at0 l k)) := by
  subst hik
  exact Pu_idxStr ho hu hx hy (by omega)
theorem run_and {k : IntKind} (a b : Int) {r : Int} (h : bits .and k a b = r) (t : TypeId) (x y : Operand) (w : World) : ((do eqGuard .and t x y (.int k a) (.int k b); binOp .and t (.int k a) (.int k b) : Sem Value)).run P w = .ok (.int k r) w := by
  simp only [eqGuard, Sem.run_bind, Sem.run_pure]
  rw [binOp_and, intBits_and, h]
  rfl
theorem run_orB {k : IntKind} (a b : Int) {r : Int} (h : bits .or k a b = r) (t : TypeId) (x y : Operand) (w : World) : ((do eqGuard .or t x y (.int k a) (.int k b); binOp .or t (.int k a) (.int k b) : Sem Value)).run P w = .ok (.int k r) w := by
  simp only [eqGuard, Sem.run_bind, Sem.run_pure]
  rw [binOp_or, intBits_or, h]
  rfl
theorem u8n (x : UInt8) : (0 : Int) ≤ (x.toNat : Int) ∧ (x.toNat : Int) < 256 := by have := x.toNat_lt; omega
theorem run_and31 (x : UInt8) (t : TypeId) (y z : Operand) (w : World) : ((do eqGuard .and t y z (bv x) (.int .u8 31); binOp .and t (bv x) (.int .u8 31) : Sem Value)).run P w = .ok (.int .u8 ((x.toNat % 32 : Nat) : Int)) w :=
  run_and _ _ (by rw [u8_and31 _ (u8n x).1 (u8n x).2]; omega) t y z w
theorem run_and15 (x : UInt8) (t : TypeId) (y z : Operand) (w : World) : ((do eqGuard .and t y z (bv x) (.int .u8 15); binOp .and t (bv x) (.int .u8 15) : Sem Value)).run P w = .ok (.int .u8 ((x.toNat % 16 : Nat) : Int)) w :=
  run_and _ _ (by rw [u8_and15 _ (u8n x).1 (u8n x).2]; omega) t y z w
theorem run_and7 (x : UInt8) (t : TypeId) (y z : Operand) (w : World) : ((do eqGuard .and t y z (bv x) (.int .u8 7); binOp .and t (bv x) (.int .u8 7) : Sem Value)).run P w = .ok (.int .u8 ((x.toNat % 8 : Nat) : Int)) w :=
  run_and _ _ (by rw [u8_and7 _ (u8n x).1 (u8n x).2]; omega) t y z w
theorem run_and63 (x : UInt8) (t : TypeId) (y z : Operand) (w : World) : ((do eqGuard .and t y z (bv x) (.int .u8 63); binOp .and t (bv x) (.int .u8 63) : Sem Value)).run P w = .ok (.int .u8 ((x.toNat % 64 : Nat) : Int)) w :=
  run_and _ _ (by rw [u8_and63 _ (u8n x).1 (u8n x).2]; omega) t y z w
set_option maxRecDepth 100000 in
theorem and192 : ∀ x : Fin 256, bits .and .u8 ((x.val : Nat) : Int) 192 = ((x.val / 64 * 64 : Nat) : Int) := by decide
theorem run_and192 (x : UInt8) (t : TypeId) (y z : Operand) (w : World) : ((do eqGuard .and t y z (bv x) (.int .u8 192); binOp .and t (bv x) (.int .u8 192) : Sem Value)).run P w = .ok (.int .u8 ((x.toNat / 64 * 64 : Nat) : Int)) w :=
  run_and _ _ (and192 ⟨x.toNat, x.toNat_lt⟩) t y z w
theorem conv_small (a : Nat) (ha : a < 256) {s d : TypeId} (hs : ∀ w, (underlying s).run P w = .ok (.int .u8) w) (hd : ∀ w, (underlying d).run P w = .ok (.int .i32) w) (w : World) : (convert s d (.int .u8 (a : Int))).run P w = .ok (.int .i32 (a : Int)) w := by
  have := conv_u8 (P := P) (UInt8.ofNat a) hs hd (by simp) w
  have h2 : (UInt8.ofNat a).toNat = a := by rw [UInt8.toNat_ofNat']; omega
  unfold bv at this
  rw [h2] at this
  exact this
theorem run_shl6 (a : Nat) (t : TypeId) (x y : Operand) {kd : IntKind} (h : a < 33554432) (w : World) : ((do eqGuard .shl t x y (.int .i32 (a : Int)) (.int kd 6); binOp .shl t (.int .i32 (a : Int)) (.int kd 6) : Sem Value)).run P w = .ok (.int .i32 ((a * 64 : Nat) : Int)) w := by
  have h4 : IntKind.i32.wrap ((a : Int) * 2 ^ 6) = (a : Int) * 2 ^ 6 := by rw [IntKind.wrap_i32]; omega
  have h2 : min (6 : Nat) IntKind.i32.bits = 6 := by simp [IntKind.bits]
  simp [eqGuard, binOp, Op.shift, h2]
  rw [show ((a : Int) * 64) = (a : Int) * 2 ^ 6 by omega, h4]
theorem run_or6 (a b : Nat) (h : a < 33554432) (hb : b < 64) (t : TypeId) (x y : Operand) (w : World) : ((do eqGuard .or t x y (.int .i32 ((a * 64 : Nat) : Int)) (.int .i32 (b : Int)); binOp .or t (.int .i32 ((a * 64 : Nat) : Int)) (.int .i32 (b : Int)) : Sem Value)).run P w = .ok (.int .i32 ((a * 64 + b : Nat) : Int)) w :=
  run_orB _ _ (by rw [i32_or6 _ _ (by omega) (by omega) (by omega) (by omega) (by omega)]; omega) t x y w
end
end Go.Proofs.YtjiafaiklmbbeaaDoor
