/- Symbolic states: values of operations on numbers; what stands in resources side by side. -/
import Derived.Test.YtjiafaiklmbbeaaDoorSl2
namespace Go.Proofs.YtjiafaiklmbbeaaDoor
open Go.RowKit
set_option linter.unusedVariables false
set_option linter.unusedSimpArgs false
theorem band_left {a b : Bool} (h : (a && b) = true) : a = true := by simp at h; exact h.1
theorem rdP_le {h h' : Hlt} (hl : ∀ g o, h' g = some o → h g = some o) {size : Nat} {v : Value} {n : Nat} {xs : List Value} (hr : rdP size v n xs h') : rdP size v n xs h := by
  obtain ⟨h1, A, c, h2, h3, h4, h5⟩ := hr
  refine ⟨h1, A, c, h2, h3, h4, fun ad had j u hu => ?_⟩
  have hc := h5 ad had j u hu
  unfold cellH at hc ⊢
  cases hb : h' (ad.add j).block with
  | none => simp [hb] at hc
  | some o => rw [hl _ _ hb]; rw [hb] at hc; exact hc
/-- What can be read in one of the resources kept aside. -/
theorem rd_star {Js : List HP} {P : HP} (k : Nat) (hk : Js[k]? = some P) {size : Nat} {v : Value} {n : Nat} {xs : List Value} (hp : ∀ h, P h → rdP size v n xs h) : ∀ h, starL Js h → rdP size v n xs h := fun h ⟨hs, h1, _, h3⟩ =>
  rdP_le (h3 k) (hp _ (h1 k P hk))
theorem rdP_cast {size : Nat} {v : Value} {n n' : Nat} {xs ys : List Value} {h : Hlt} (hr : rdP size v n xs h) (hx : xs = ys) (hn : n = n') : rdP size v n' ys h := by subst hx; subst hn; exact hr
theorem rd_const (c : Nat) (size : Nat) : ∀ h : Hlt, rdP size (.slice none 0 0) 0 [] h := fun h => ⟨by simp, none, 0, rfl, Nat.le_refl _, fun _ => rfl, fun ad h => by cases h⟩
section
variable {P : Program} {E : Env} {n : Nat} {K : Slots} {L : Res} {o : Oper}
theorem Pu_idxS1 {t r e m : Nat} {x y : Operand} {v : Value} {xs : List Value} {Pr : HP} {kd : IntKind} {ix : Int} (ho : o.op = .indexAddr t x y) (hu : ∀ w, (underlying t).run P w = .ok (.slice e) w) (hs : ∀ w, (sizeOf e).run P w = .ok 1 w)
    (hx : evK K x = some v) (hy : evK K y = some (.int kd ix)) (hr : look L r = some Pr) (hrd : ∀ h, Pr h → rdP 1 v m xs h) (hi : 0 ≤ ix ∧ ix < (m : Int)) : Pure P E n o K L (.pointer (some ((adrOf v).add ix.toNat))) := by
  have := Pu_idxS (o := o) (E := E) (n := n) ho hu hs hx hy hr hrd hi
  rwa [Nat.mul_one] at this
theorem bs_at1 {l : List UInt8} {k : Nat} (h : k < l.length) : (bs l)[k]? = some (bv (at0 l k)) := by have := bs_at h; rwa [Nat.mul_one] at this
end
/-- Bytes that can be read. -/
abbrev rdB (v : Value) (l : List UInt8) : HP := rdP 1 v l.length (bs l)
theorem rdB_sub {v : Value} {l : List UInt8} {h : Hlt} (hr : rdB v l h) {a b : Nat} (hab : a ≤ b) (hb : b ≤ l.length) : rdB (subV 1 v a b) ((l.drop a).take (b - a)) h :=
  rdP_cast (rdP_sub hr hab hb) (by simp only [Nat.mul_one, ← bs_drop, ← bs_take]) (by simp; omega)
theorem bs_cells (l : List UInt8) : ∀ u ∈ bs l, u.cells = #[u] := by
  intro u hu
  simp only [bs, List.mem_map] at hu
  obtain ⟨x, _, rfl⟩ := hu
  rfl
theorem load_all {cs : List Value} {m : Nat} (h : cs.length = m) : (cs.drop 0).take m = cs := by rw [List.drop_zero]; exact List.take_of_length_le (by omega)
/-- A row of bytes. -/
def rowB (e : TypeId) (v : Value) (l : List UInt8) : HP := rowP e 1 v l.length (bs l)
theorem rowB_of {e : TypeId} {v : Value} {n : Nat} {xs : List Value} (l : List UInt8) (hn : n = l.length) (hx : xs = bs l) : rowP e 1 v n xs = rowB e v l := by subst hn; subst hx; rfl
theorem rowB_rd {e : TypeId} {v : Value} {l : List UInt8} : ∀ h, rowB e v l h → rdB v l h := fun h hr => rowP_rd hr
/-- The nil slice is an empty row. -/
theorem Sat.nilRow {E : Env} {L : Res} {w : World} (hS : Sat E L w) (r : Nat) (e : TypeId) (size : Nat) : Sat E ((r, rowP e size (.slice none 0 0) 0 []) :: L) w :=
  hS.new r (Chg.refl [] w) (fun _ => none) ⟨by simp, .inl ⟨rfl, rfl⟩⟩ (by intro g o h; cases h) (by intro g h; cases h)
theorem X_nilRow {E : Env} {n : Nat} {K : Slots} {L : Res} {Q : Exit → Act → World → Prop} {e : Exit} (r : Nat) (t : TypeId) (size : Nat) (h : X E n Q e K ((r, rowP t size (.slice none 0 0) 0 []) :: L)) : X E n Q e K L := fun a w hA hS => h a w hA (hS.nilRow r t size)
theorem W_nilRow {P : Program} {E : Env} {n : Nat} {K : Slots} {L : Res} {Q : Exit → Act → World → Prop} {c : Code} (r : Nat) (t : TypeId) (size : Nat) (h : W P E n c K ((r, rowP t size (.slice none 0 0) 0 []) :: L) Q) : W P E n c K L Q := fun a w hA hS => h a w hA (hS.nilRow r t size)
theorem rdB_tail {v : Value} {l : List UInt8} {h : Hlt} (hr : rdB v l h) {a : Nat} (hab : a ≤ l.length) : rdB (subV 1 v a l.length) (l.drop a) h :=
  rdP_cast (rdB_sub hr hab (Nat.le_refl _)) (by rw [List.take_of_length_le (by simp)]) (by simp)
/-- The id of zeros. -/
def zeroId : List UInt8 := List.replicate 32 0
/-- A number as a byte. -/
def byte (n : Int) : UInt8 := UInt8.ofNat (n % 256).toNat
theorem byte_toNat (n : Int) : ((byte n).toNat : Int) = n % 256 := by
  unfold byte
  rw [UInt8.toNat_ofNat']
  omega
theorem u8_wrap (n : Int) : IntKind.u8.wrap n = n % 256 := by simp [IntKind.wrap, IntKind.signed, IntKind.bits]
theorem bv_byte (n : Int) : Value.int .u8 (IntKind.u8.wrap n) = bv (byte n) := by unfold bv; rw [byte_toNat, u8_wrap]
theorem byte_bv (x : UInt8) : byte (x.toNat : Int) = x := by
  unfold byte
  apply UInt8.toNat_inj.1
  rw [UInt8.toNat_ofNat']
  have := x.toNat_lt
  omega
theorem lt256 (x : UInt8) : (x.toNat : Int) < 256 := by have := x.toNat_lt; omega
section
variable {P : Program} {s d : TypeId}
theorem conv_u8 (x : UInt8) {k k' : IntKind} (hs : ∀ w, (underlying s).run P w = .ok (.int k') w) (hd : ∀ w, (underlying d).run P w = .ok (.int k) w) (hk : k = .i64 ∨ k = .u64 ∨ k = .u32 ∨ k = .i32 := by simp) (w : World) : (convert s d (bv x)).run P w = .ok (.int k (x.toNat : Int)) w := by
  have h1 := lt256 x
  have hw : k.wrap (x.toNat : Int) = (x.toNat : Int) := by
    rcases hk with rfl | rfl | rfl | rfl <;> simp [IntKind.wrap, IntKind.signed, IntKind.bits] <;> omega
  unfold bv convert
  simp only [Sem.run_bind, hs, hd, Result.andThen_ok, Conv.intToInt, Sem.run_pure, hw]
theorem conv_byte (k0 : IntKind) (n : Int) {k' : IntKind} (hs : ∀ w, (underlying s).run P w = .ok (.int k') w) (hd : ∀ w, (underlying d).run P w = .ok (.int .u8) w) (w : World) : (convert s d (.int k0 n)).run P w = .ok (bv (byte n)) w := by
  unfold convert
  simp only [Sem.run_bind, hs, hd, Result.andThen_ok, Conv.intToInt, Sem.run_pure, bv_byte]
theorem conv_i64 (k0 : IntKind) (n : Int) {k' : IntKind} (hs : ∀ w, (underlying s).run P w = .ok (.int k') w) (hd : ∀ w, (underlying d).run P w = .ok (.int .i64) w) (h : -9223372036854775808 ≤ n ∧ n < 9223372036854775808) (w : World) : (convert s d (.int k0 n)).run P w = .ok (.int .i64 n) w := by
  unfold convert
  simp only [Sem.run_bind, hs, hd, Result.andThen_ok, Conv.intToInt, Sem.run_pure, IntWalk.i64_in n (by omega)]
theorem conv_int (k0 : IntKind) (n : Int) {k k' : IntKind} (hs : ∀ w, (underlying s).run P w = .ok (.int k') w) (hd : ∀ w, (underlying d).run P w = .ok (.int k) w) (w : World) : (convert s d (.int k0 n)).run P w = .ok (.int k (k.wrap n)) w := by
  unfold convert
  simp only [Sem.run_bind, hs, hd, Result.andThen_ok, Conv.intToInt, Sem.run_pure]
theorem run_not (b : Bool) (w : World) : (Op.unary .not (.bool b)).run P w = .ok (.bool (!b)) w := by simp [Op.unary]
theorem run_quo (a b : Int) (t : TypeId) (x y : Operand) (h : 0 ≤ a ∧ a < 9223372036854775808 ∧ 0 < b) (w : World) : ((do eqGuard .quo t x y (.int .i64 a) (.int .i64 b); binOp .quo t (.int .i64 a) (.int .i64 b) : Sem Value)).run P w = .ok (.int .i64 (a / b)) w := by
  have h1 : 0 ≤ a / b := Int.ediv_nonneg h.1 (by omega)
  have h2 : a / b ≤ a := Int.ediv_le_self _ h.1
  have h3 := IntWalk.i64_in (a / b) (by omega)
  have h4 : b ≠ 0 := by omega
  simp [eqGuard, binOp, Op.intDiv, h4, Int.tdiv_eq_ediv_of_nonneg h.1, h3]
theorem run_rem (a b : Int) (t : TypeId) (x y : Operand) (h : 0 ≤ a ∧ a < 9223372036854775808 ∧ 0 < b ∧ b < 9223372036854775808) (w : World) : ((do eqGuard .rem t x y (.int .i64 a) (.int .i64 b); binOp .rem t (.int .i64 a) (.int .i64 b) : Sem Value)).run P w = .ok (.int .i64 (a % b)) w := by
  have h1 : 0 ≤ a % b := Int.emod_nonneg _ (by omega)
  have h2 : a % b < b := Int.emod_lt_of_pos _ (by omega)
  have h3 := IntWalk.i64_in (a % b) (by omega)
  have h4 : b ≠ 0 := by omega
  simp [eqGuard, binOp, Op.intDiv, h4, Int.tmod_eq_emod_of_nonneg h.1, h3]
theorem run_tmod (a b : Int) (t : TypeId) (x y : Operand) (h : 0 < b ∧ b < 9223372036854775808) (w : World) : ((do eqGuard .rem t x y (.int .i64 a) (.int .i64 b); binOp .rem t (.int .i64 a) (.int .i64 b) : Sem Value)).run P w = .ok (.int .i64 (a.tmod b)) w := by
  have h1 := Int.tmod_lt_of_pos a h.1
  have h2 : -b < a.tmod b := Int.lt_tmod_of_pos a h.1
  have h3 := IntWalk.i64_in (a.tmod b) (by omega)
  have h4 : b ≠ 0 := by omega
  simp [eqGuard, binOp, Op.intDiv, h4, h3]
/-- Bytes compared. -/
theorem u8_eq (x y : UInt8) : decide ((x.toNat : Int) = (y.toNat : Int)) = decide (x = y) := by
  by_cases h : x = y
  · simp [h]
  · have : ¬ (x.toNat : Int) = (y.toNat : Int) := fun e => h (UInt8.toNat_inj.1 (by omega))
    simp [h, this]
end
end Go.Proofs.YtjiafaiklmbbeaaDoor
