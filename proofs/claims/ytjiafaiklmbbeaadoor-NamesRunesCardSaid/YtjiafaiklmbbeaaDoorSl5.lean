/- Symbolic states: structs written out, stored whole, and returned out of memory; more numbers. -/
import Derived.Test.YtjiafaiklmbbeaaDoorSl4
import Derived.Laws.BitsLemmas
import Derived.Laws.BitsAllLaws
namespace Go.Proofs.YtjiafaiklmbbeaaDoor
open Go.RowKit
set_option linter.unusedVariables false
set_option linter.unusedSimpArgs false

/-- Parts laid into a struct's cells, one after another; where each field stands, how many cells it has. -/
inductive Fills (pl : List (Nat × Nat)) : List Value → List (Nat × Value) → List Value → Prop
  | nil (cs) : Fills pl cs [] cs
  | cons {cs cs1 cs2 : List Value} {i off sz : Nat} {v : Value} {vs : List (Nat × Value)} (hf : pl[i]? = some (off, sz)) (hv : v.cells.size = sz) (hfit : off + sz ≤ cs.length)
      (hcs : over cs off v.cells.toList = cs1) (rest : Fills pl cs1 vs cs2) : Fills pl cs ((i, v) :: vs) cs2
theorem Fills.one {pl : List (Nat × Nat)} {cs cs1 cs2 : List Value} {i off : Nat} {v : Value} {vs : List (Nat × Value)} (hf : pl[i]? = some (off, 1)) (hv : v.oneCell' = true) (hfit : off < cs.length)
      (hcs : cs.set off v = cs1) (rest : Fills pl cs1 vs cs2) : Fills pl cs ((i, v) :: vs) cs2 :=
  .cons hf (by rw [cells_one hv]; rfl) hfit (by rw [cells_one hv, List.toList_toArray, over_one _ _ _ hfit]; exact hcs) rest
theorem Fills.many {pl : List (Nat × Nat)} {cs cs1 cs2 : List Value} {i off sz : Nat} {xs : List Value} {vs : List (Nat × Value)} (hf : pl[i]? = some (off, sz)) (hv : xs.length = sz) (hfit : off + sz ≤ cs.length)
      (hcs : over cs off xs = cs1) (rest : Fills pl cs1 vs cs2) : Fills pl cs ((i, .agg xs.toArray) :: vs) cs2 :=
  .cons hf (by simpa [Value.cells] using hv) hfit (by simpa [Value.cells] using hcs) rest
theorem zipIdx_fold (l : List Value) : ∀ (k : Nat) (off : Nat) (cs : Array Value), off + k + l.length ≤ cs.size →
    (l.zipIdx k).foldl (fun cs (c, j) => cs.setIfInBounds (off + j) c) cs = (over cs.toList (off + k) l).toArray := by
  induction l with
  | nil => intro k off cs h; simp [over]
  | cons u l ih =>
    intro k off cs h
    simp at h
    rw [List.zipIdx_cons, List.foldl_cons, ih (k + 1) off _ (by simp; omega)]
    congr 1
    apply List.ext_getElem?
    intro j
    rw [over_get _ _ _ _ (by simp; omega), over_get _ _ _ _ (by simp; omega)]
    simp only [Array.toList_setIfInBounds, List.getElem?_set, List.length_cons, Array.length_toList]
    by_cases h1 : j < off + k
    · rw [if_pos (by omega), if_pos h1, if_neg (by omega)]
    · rw [if_neg h1]
      by_cases h2 : j = off + k
      · subst h2
        rw [if_pos (by omega), if_pos rfl, if_pos (by omega), if_pos (by omega), Nat.sub_self]
        rfl
      · rw [if_neg (by omega)]
        by_cases h3 : j < off + (k + 1) + l.length
        · rw [if_pos h3, if_pos (by omega), show j - (off + k) = (j - (off + (k + 1))) + 1 by omega]
          rfl
        · rw [if_neg h3, if_neg (by omega), if_neg (by omega)]
theorem Fills.run {pl : List (Nat × Nat)} {cs cs2 : List Value} {vs : List (Nat × Value)} (h : Fills pl cs vs cs2) : Instr.fill (pl.toArray[·]?) cs.toArray vs = some cs2.toArray := by
  induction h with
  | nil => rfl
  | cons hf hv hfit hcs rest ih =>
    rename_i cs cs1 cs2 i off sz v vs
    have hf' : pl.toArray[i]? = some (off, sz) := by simpa using hf
    simp only [Instr.fill, hf']
    rw [if_neg (by simp [hv]; omega)]
    have hz := zipIdx_fold v.cells.toList 0 off cs.toArray (by simp [hv]; omega)
    rw [Nat.add_zero] at hz
    rw [← Array.foldl_toList, Array.toList_zipIdx, hz, List.toList_toArray, hcs]
    exact ih
/-- Where a struct's fields stand. -/
def placesOf (P : Program) (t : TypeId) : Option (List (Nat × Nat)) := match P.underlying t with
  | some (.struct fields) => fields.toList.mapM (fun f => (P.info? f.type).map fun i => (f.offset, i.size))
  | _ => none
section
variable {P : Program} {E : Env} {n : Nat} {K : Slots} {L : Res} {o : Oper} {C : Value → Res → Prop}
/-- A struct, written out. -/
theorem Pu_build {t : TypeId} {ps : List (Nat × Operand)} {vs : List (Nat × Value)} {V : Value} (pl : List (Nat × Nat)) (zs : List Value) {cs : List Value} (ho : o.op = .build t ps.toArray) (hp : evP K ps = some vs) (hpl : placesOf P t = some pl)
    (hz : (P.info? t).bind (·.zero) = some (.agg zs.toArray)) (hf : Fills pl zs vs cs) (hV : .agg cs.toArray = V) : Pure P E n o K L V := fun a w hA hS => by
  have hq := evP_map hA hp
  have hm : (ps.toArray.map fun (i, x) => (i, a.eval x)) = vs.toArray := by simp [← hq]
  subst hV
  have hb : P.built t vs.toArray.toList = some cs.toArray := by
    unfold Program.built
    cases hi : P.info? t with
    | none => simp [hi] at hz
    | some it =>
      simp only [hi, Option.bind_some] at hz
      unfold placesOf at hpl
      cases hu : P.underlying t with
      | none => simp [hu] at hpl
      | some d =>
        cases d <;> simp only [hu] at hpl <;> first | cases hpl | skip
        simp only [hz, hpl, Value.cells]
        exact hf.run
  simp only [execOp, ho, hm, Sem.run_bind, run_build w t _ _ hb, Result.andThen_ok, Sem.run_pure]
theorem zero_run {t : TypeId} {z : Value} (h : (P.info? t).bind (·.zero) = some z) : ∀ w, (zeroValue t).run P w = .ok z w := fun w => by
  cases hi : P.info? t with
  | none => simp [hi] at h
  | some i =>
    simp only [hi, Option.bind_some] at h
    simp [zeroValue, typeInfo, hi, h]
/-- A whole struct or array, stored. -/
theorem OpT_storeAll {t r g te m : Nat} {x y : Operand} {cs vs : List Value} (ho : o.op = .store t x y) (hs : ∀ w, (sizeOf t).run P w = .ok m w) (hx : evK K x = some (.pointer (some ⟨g, 0, none⟩))) (hy : evK K y = some (.agg vs.toArray)) (hr : look L r = some (blk g te cs))
    (hl : cs.length = m) (hv : vs.length = m) (h1 : ∀ x ∈ vs, x.oneCell' = true) (k : C undef ((r, blk g te vs) :: L)) : OpT P E n o K L C :=
  OpT_storeB (u := .agg vs.toArray) ho (by simp [Value.cells, hv]; exact hs) hx hy hr (by simp [Value.cells]; omega) (by simpa [Value.cells] using h1) (by simp only [Value.cells]; exact over_all _ _ (by omega)) k
/-- A field that is a struct or an array, stored. -/
theorem OpT_storeF {t r g off te m : Nat} {x y : Operand} {cs cs' vs : List Value} (ho : o.op = .store t x y) (hs : ∀ w, (sizeOf t).run P w = .ok m w) (hx : evK K x = some (.pointer (some ⟨g, off, none⟩))) (hy : evK K y = some (.agg vs.toArray)) (hr : look L r = some (blk g te cs))
    (hv : vs.length = m) (hl : off + m ≤ cs.length) (h1 : ∀ x ∈ vs, x.oneCell' = true) (hcs : over cs off vs = cs') (k : C undef ((r, blk g te cs') :: L)) : OpT P E n o K L C :=
  OpT_storeB (u := .agg vs.toArray) ho (by simp [Value.cells, hv]; exact hs) hx hy hr (by simp [Value.cells]; omega) (by simpa [Value.cells] using h1) (by simpa only [Value.cells] using hcs) k
/-- Results that stand in memory. -/
theorem run_loadVarB {w : World} {t r g te m : Nat} {cs : List Value} (hS : Sat E L w) (hr : look L r = some (blk g te cs)) (ha : ∀ w, (isAgg t).run P w = .ok true w) (hs : ∀ w, (sizeOf t).run P w = .ok m w) (hm : cs.length = m) : (loadVar t ⟨g, 0, none⟩).run P w = .ok (.agg cs.toArray) w := by
  obtain ⟨h, h1, h2⟩ := hS.read hr
  have h3 := run_loadCells_list (P := P) w ⟨g, 0, none⟩ cs (fun j u hu => cellH_in h2 (by rw [addr_add0, blk_cell h1]; exact hu))
  rw [hm] at h3
  simp only [loadVar, Sem.run_bind, Sem.run_pure, Result.andThen_ok, ha, hs, if_true, h3]
theorem resC1 {fn : Func} {t d r g te m : Nat} {cs : List Value} (hr : fn.results = #[.cell d t]) (hd : look K d = some (.pointer (some ⟨g, 0, none⟩))) (ha : ∀ w, (isAgg t).run P w = .ok true w) (hs : ∀ w, (sizeOf t).run P w = .ok m w) (hL : look L r = some (blk g te cs)) (hm : cs.length = m) :
    ∀ a w, Agr n K a → Sat E L w → (results fn a.tmps).run P w = .ok (.agg cs.toArray) w := fun a w hA hS => by
  have := run_loadVarB hS hL ha hs hm
  simp [results, hr, hA.2.2 d _ hd, asAddr, this]
theorem resC2 {fn : Func} {t d u r g te m : Nat} {x : Value} {cs : List Value} (hr : fn.results = #[.cell d t, .tmp u]) (hd : look K d = some (.pointer (some ⟨g, 0, none⟩))) (hx : look K u = some x) (ha : ∀ w, (isAgg t).run P w = .ok true w) (hs : ∀ w, (sizeOf t).run P w = .ok m w) (hL : look L r = some (blk g te cs)) (hm : cs.length = m) :
    ∀ a w, Agr n K a → Sat E L w → (results fn a.tmps).run P w = .ok (.tuple #[.agg cs.toArray, x]) w := fun a w hA hS => by
  have := run_loadVarB hS hL ha hs hm
  simp [results, hr, hA.2.2 d _ hd, asAddr, this, hA.2.2 u _ hx]
end
theorem CallsS.imp {P : Program} {f : FuncId} {args : Array Value} {F : HP} {Ps : List HP} {R R' : Value → List HP → Prop} (h : CallsS P f args F Ps R) (hR : ∀ v Ps, R v Ps → R' v Ps) : CallsS P f args F Ps R' :=
  fun E w hS => (h E w hS).mono fun e w' ⟨v, Ps', h1, h2, h3⟩ => ⟨v, Ps', h1, hR _ _ h2, h3⟩
section
variable {P : Program}
theorem run_eqb (a b : Bool) (t : TypeId) (hu : P.underlying t = some .bool) (x y : Operand) (w : World) : ((do eqGuard .eql t x y (.bool a) (.bool b); binOp .eql t (.bool a) (.bool b) : Sem Value)).run P w = .ok (.bool (a == b)) w := by
  have := run_eql_bool (P := P) (w := w) t a b hu
  simp only [eqGuard, Sem.run_bind, Sem.run_pure]
  exact this
theorem run_shl (a k : Nat) (t : TypeId) (x y : Operand) {kd : IntKind} (h : a * 2 ^ k < 9223372036854775808) (hk : k ≤ 64) (w : World) : ((do eqGuard .shl t x y (.int .i64 (a : Int)) (.int kd (k : Int)); binOp .shl t (.int .i64 (a : Int)) (.int kd (k : Int)) : Sem Value)).run P w = .ok (.int .i64 ((a * 2 ^ k : Nat) : Int)) w := by
  have h1 : ¬ ((k : Int) < 0) := by omega
  have h2 : min k IntKind.i64.bits = k := by simp [IntKind.bits]; omega
  have h3 : ((a * 2 ^ k : Nat) : Int) = (a : Int) * 2 ^ k := by simp
  have h4 := IntWalk.i64_in ((a : Int) * 2 ^ k) (by rw [← h3]; omega)
  rw [h3]
  simp [eqGuard, binOp, Op.shift, h1, h2, h4]
theorem run_orJoin (a b k : Nat) (t : TypeId) (x y : Operand) (ha : a * 2 ^ k < 4611686018427387904) (hb : b < 2 ^ k) (hk : k ≤ 62) (w : World) : ((do eqGuard .or t x y (.int .i64 ((a * 2 ^ k : Nat) : Int)) (.int .i64 (b : Int)); binOp .or t (.int .i64 ((a * 2 ^ k : Nat) : Int)) (.int .i64 (b : Int)) : Sem Value)).run P w = .ok (.int .i64 ((a * 2 ^ k + b : Nat) : Int)) w := by
  have hb' : b < 2 ^ 62 := Nat.lt_of_lt_of_le hb (Nat.pow_le_pow_right (by omega) hk)
  have p62 : (2 : Int) ^ 62 = 4611686018427387904 := by decide
  have q1 : ∀ n : Int, 0 ≤ n → n < 2 ^ 62 → IntKind.i64.wrap n = n := fun n h0 h1 => IntWalk.i64_in _ (by rw [p62] at h1; omega)
  have q2 : ((a * 2 ^ k : Nat) : Int) % 2 ^ k = 0 := by rw [Int.natCast_mul, Int.natCast_pow]; exact Int.mul_emod_left _ _
  have q3 : ((a * 2 ^ k : Nat) : Int) < 2 ^ 62 := by rw [p62]; omega
  have e0 := bits_join .i64 62 (by decide) q1 k ((a * 2 ^ k : Nat) : Int) (b : Int) (by omega) q2 q3 (by omega) (by exact_mod_cast hb) (by exact_mod_cast hb')
  simp only [eqGuard, Sem.run_bind, Sem.run_pure]
  rw [binOp_or, intBits_or, e0]
  rfl
end
end Go.Proofs.YtjiafaiklmbbeaaDoor
