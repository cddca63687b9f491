/- Symbolic states: facts drawn from what is held; bytes as strings. -/
import Derived.Test.YtjiafaiklmbbeaaDoorSl6
import Derived.Test.YtjiafaiklmbbeaaDoorMem3
import Derived.Laws.StructEq
namespace Go.Proofs.YtjiafaiklmbbeaaDoor
open Go.RowKit
set_option linter.unusedVariables false
set_option linter.unusedSimpArgs false
section
variable {P : Program} {E : Env} {n : Nat} {K : Slots} {L : Res} {Q : Exit → Act → World → Prop} {o : Oper} {C : Value → Res → Prop} {ops : Array Oper} {l : List Oper} {c : Code}
theorem W_fact {r : Nat} {Pr : HP} {φ : Prop} (hr : look L r = some Pr) (hp : ∀ h, Pr h → φ) (k : φ → W P E n c K L Q) : W P E n c K L Q := fun a w hA hS => k (hS.get hr hp) a w hA hS
theorem WL_fact {r : Nat} {Pr : HP} {φ : Prop} (hr : look L r = some Pr) (hp : ∀ h, Pr h → φ) (k : φ → WL P E n ops l K L Q) : WL P E n ops l K L Q := fun a w hA hS => k (hS.get hr hp) a w hA hS
theorem X_fact {e : Exit} {r : Nat} {Pr : HP} {φ : Prop} (hr : look L r = some Pr) (hp : ∀ h, Pr h → φ) (k : φ → X E n Q e K L) : X E n Q e K L := fun a w hA hS => k (hS.get hr hp) a w hA hS
theorem rd_one {size : Nat} {v : Value} {n : Nat} {xs : List Value} {h : Hlt} (hr : rdP size v n xs h) : v.oneCell' = true := by
  obtain ⟨_, A, c, rfl, _⟩ := hr
  rfl
/-- A resource is seen otherwise. -/
theorem W_turn {P' : HP} (r : Nat) {Pr : HP} (hr : look L r = some Pr) (hp : ∀ h, Pr h → P' h) (k : W P E n c K ((r, P') :: L) Q) : W P E n c K L Q := fun a w hA hS => k a w hA (hS.cons hr hp)
theorem X_turn {P' : HP} {e : Exit} (r : Nat) {Pr : HP} (hr : look L r = some Pr) (hp : ∀ h, Pr h → P' h) (k : X E n Q e K ((r, P') :: L)) : X E n Q e K L := fun a w hA hS => k a w hA (hS.cons hr hp)
/-- What a resource says there is. -/
theorem W_ex {α : Type} {P' : α → HP} (r : Nat) {Pr : HP} (hr : look L r = some Pr) (hp : ∀ h, Pr h → ∃ x, P' x h) (k : ∀ x, W P E n c K ((r, P' x) :: L) Q) : W P E n c K L Q := fun a w hA hS => by
  obtain ⟨x, hx⟩ := hS.ex hr hp
  exact k x a w hA hx
theorem rdB_RdB {v : Value} {l : List UInt8} {h : Hlt} {w : World} (hr : rdB v l h) (hi : In h w) : RdB w v l := rdP_Rd hr hi Nat.one_pos
/-- Bytes to a string. -/
theorem Pu_convBS {s d e r : Nat} {x : Operand} {v : Value} {l : List UInt8} {Pr : HP} (ho : o.op = .convert s d x) (hs : P.underlying s = some (.slice e)) (he : P.underlying e = some (.int .u8)) (hd : P.underlying d = some .string) (hx : evK K x = some v)
    (hr : look L r = some Pr) (hrd : ∀ h, Pr h → rdB v l h) : Pure P E n o K L (.string (strB l)) := fun a w hA hS => by
  obtain ⟨h, h1, h2⟩ := hS.read hr
  have := conv_rd (P := P) (rdB_RdB (hrd h h1) h2) s e hs he d hd
  simp only [execOp, ho, hA.eval hx, Sem.run_bind, this]; rfl
theorem run_strNe (a b : List UInt8) (t : TypeId) (x y : Operand) (w : World) : ((do eqGuard .neq t x y (.string (strB a)) (.string (strB b)); binOp .neq t (.string (strB a)) (.string (strB b)) : Sem Value)).run P w = .ok (.bool (!(a == b))) w := by
  simp [eqGuard, binOp, Op.stringOp, bne, strB_toList]
theorem run_strEq (a b : List UInt8) (t : TypeId) (x y : Operand) (w : World) : ((do eqGuard .eql t x y (.string (strB a)) (.string (strB b)); binOp .eql t (.string (strB a)) (.string (strB b)) : Sem Value)).run P w = .ok (.bool (a == b)) w := by
  simp [eqGuard, binOp, Op.stringOp, strB_toList]
theorem run_addU8 (a b : UInt8) (t : TypeId) (x y : Operand) (w : World) : ((do eqGuard .add t x y (bv a) (bv b); binOp .add t (bv a) (bv b) : Sem Value)).run P w = .ok (bv (a + b)) w := by
  have : IntKind.u8.wrap ((a.toNat : Int) + (b.toNat : Int)) = ((a + b).toNat : Int) := by
    rw [u8_wrap, UInt8.toNat_add]; omega
  simp [bv, eqGuard, binOp, Op.intArith, this]
theorem rdB_front {v : Value} {l : List UInt8} {h : Hlt} (hr : rdB v l h) {b : Nat} (hb : b ≤ l.length) : rdB (subV 1 v 0 b) (l.take b) h :=
  rdP_cast (rdB_sub hr (Nat.zero_le _) hb) (by simp) (by simp)
end
/-- All that is held, as one thing that may be read. -/
def Within (G : HP) (Js : List HP) : Prop := ∀ h, G h → starL Js h
theorem W_pack {P : Program} {E : Env} {n : Nat} {K : Slots} {L : Res} {Q : Exit → Act → World → Prop} {c : Code} (J : List Nat) {Js : List HP} (hJ : lookL L J = some Js) (hn : J.Nodup) (k : ∀ G, Within G Js → W P E n c K [(0, G)] Q) : W P E n c K L Q := fun a w hA hS =>
  k (starL Js) (fun h hh => hh) a w hA (hS.pack (.of hJ) (C := []) (Cs := []) trivial (by simpa using hn))
theorem W_packC {P : Program} {E : Env} {n : Nat} {K : Slots} {L : Res} {Q : Exit → Act → World → Prop} {c : Code} (J C : List Nat) {Js Cs : List HP} (hJ : lookL L J = some Js) (hC : lookL L C = some Cs) (hn : (J ++ C).Nodup) (k : ∀ G, Within G Js → W P E n c K (En 0 (G :: Cs)) Q) : W P E n c K L Q := fun a w hA hS =>
  k (starL Js) (fun h hh => hh) a w hA (hS.pack (.of hJ) (.of hC) hn)
theorem Within.rd {G : HP} {Js : List HP} {P : HP} (hw : Within G Js) (k : Nat) (hk : Js[k]? = some P) {size : Nat} {v : Value} {n : Nat} {xs : List Value} (hp : ∀ h, P h → rdP size v n xs h) : ∀ h, G h → rdP size v n xs h := fun h hg => rd_star k hk hp h (hw h hg)
theorem Within.orig {G : HP} {Js : List HP} {W : World} (hw : Within G Js) (k : Nat) (hk : Js[k]? = some (Proofs.YtjiafaiklmbbeaaDoor.orig W)) : ∀ h, G h → Proofs.YtjiafaiklmbbeaaDoor.orig W h := fun h hg g o hgo => by
  obtain ⟨hs, h1, _, h3⟩ := hw h hg
  exact h3 k g o (h1 k _ hk g o hgo)
/-- Structs compared, field by field. -/
inductive EqF (P : Program) (d : Nat) (xs ys : Array Value) (w : World) : List (String × Nat × Nat) → Bool → Prop
  | nil : EqF P d xs ys w [] true
  | cons {nm : String} {t off : Nat} {fs : List (String × Nat × Nat)} {a b : Value} {r r' : Bool} (hn : nm ≠ "_") (ha : (part t xs off).run P w = .ok a w) (hb : (part t ys off).run P w = .ok b w) (hr : (Op.equalIn d t a b).run P w = .ok r w) (h : EqF P d xs ys w fs r') : EqF P d xs ys w ((nm, t, off) :: fs) (r && r')
theorem EqF.run {P : Program} {d : Nat} {xs ys : Array Value} {w : World} : ∀ {fs : List Field} {gs : List (String × Nat × Nat)} {r : Bool}, fs.map (fun f => (f.name, f.type, f.offset)) = gs → EqF P d xs ys w gs r → (Op.eqFields d xs ys fs).run P w = .ok r w
  | [], gs, r, hg, h => by
    simp at hg
    subst hg
    cases h
    simp [Op.eqFields]
  | f :: fs, gs, r, hg, h => by
    rw [List.map_cons] at hg
    subst hg
    cases h with
    | cons hn ha hb hr h =>
      have ih := EqF.run rfl h
      rename_i a b r r'
      simp only [Op.eqFields, hn, ne_eq, not_false_eq_true, if_true, Sem.run_bind, ha, hb, hr, Result.andThen_ok]
      cases r with
      | false => simp
      | true => simpa using ih
theorem run_structEq {P : Program} {t : TypeId} {gs : List (String × Nat × Nat)} {xs ys : Array Value} {r : Bool} (w : World) (hu : P.underlying t = some (.struct (P.fieldsOf t))) (hs : P.stoodInHeld t = false) (hg : (P.fieldsOf t).toList.map (fun f => (f.name, f.type, f.offset)) = gs) (hq : P.eqGuardType P.depth t = false)
    (h : EqF P 9999 xs ys w gs r) (x y : Operand) : ((do eqGuard .eql t x y (.agg xs) (.agg ys); binOp .eql t (.agg xs) (.agg ys) : Sem Value)).run P w = .ok (.bool r) w ∧ ((do eqGuard .neq t x y (.agg xs) (.agg ys); binOp .neq t (.agg xs) (.agg ys) : Sem Value)).run P w = .ok (.bool (!r)) w := by
  have h1 := run_equalIn_struct (P := P) w 9999 t xs ys hu hs
  rw [h.run hg] at h1
  constructor <;> simp [eqGuard, binOp, Op.equal, Op.maxDepth, h1, hq, program, Sem.run]
/-- Ints that can be read. -/
def is (l : List Int) : List Value := l.map (Value.int .i64)
theorem is_length (l : List Int) : (is l).length = l.length := by simp [is]
theorem is_at {l : List Int} {k : Nat} (h : k < l.length) : (is l)[k]? = some (.int .i64 (l.getD k 0)) := by simp [is, h]
abbrev rdN (v : Value) (l : List Int) : HP := rdP 1 v l.length (is l)
end Go.Proofs.YtjiafaiklmbbeaaDoor
