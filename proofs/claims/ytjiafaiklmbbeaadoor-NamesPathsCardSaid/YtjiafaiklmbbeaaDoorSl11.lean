/- Symbolic states, part 11: guards that are known. -/
import Derived.Test.YtjiafaiklmbbeaaDoorSl10
namespace Go.Proofs.YtjiafaiklmbbeaaDoor
open Go.RowKit
set_option linter.unusedVariables false
set_option linter.unusedSimpArgs false
section
variable {P : Program} {E : Env} {n : Nat} {K : Slots} {L : Res} {Q : Exit → Act → World → Prop} {ops : Array Oper} {rest : List Oper} {o : Oper} {v : Value} {S : Res} {fuel : Nat} {listed : Array Bool}
theorem WL_gT {d j dj : Nat} {want b : Bool} (hg : o.guard = some (j, want)) (hj : (ops[j]?).bind (·.dst) = some dj) (hb : look K dj = some (.bool b)) (hw : (b == want) = true) (hd : o.dst = some d) (hn : d < n)
    (h : OpT P E n o K L (fun v L' => WL P E n ops rest ((d, v) :: K) L' Q)) : WL P E n ops (o :: rest) K L Q := by
  intro a w hA hS
  refine wpList_step fun Kc hK => ?_
  have hy := yielded_of hA hj hb
  simp only [Region.wanted, hg, hy, boolOf]
  rw [if_pos (by simpa using hw)]
  refine h a w Kc Q hA hS fun v L' w' hk hS' => hK _ _ ?_
  rw [hd]
  exact hk _ _ (hA.put hn v) hS'
theorem WL_gT0 {j dj : Nat} {want b : Bool} (hg : o.guard = some (j, want)) (hj : (ops[j]?).bind (·.dst) = some dj) (hb : look K dj = some (.bool b)) (hw : (b == want) = true) (hd : o.dst = none)
    (h : OpT P E n o K L (fun v L' => WL P E n ops rest K L' Q)) : WL P E n ops (o :: rest) K L Q := by
  intro a w hA hS
  refine wpList_step fun Kc hK => ?_
  have hy := yielded_of hA hj hb
  simp only [Region.wanted, hg, hy, boolOf]
  rw [if_pos (by simpa using hw)]
  refine h a w Kc Q hA hS fun v L' w' hk hS' => hK _ _ ?_
  rw [hd]
  exact hk _ _ hA hS'
theorem WL_gF {d j dj : Nat} {want : Bool} {bv : Value} (hg : o.guard = some (j, want)) (hj : (ops[j]?).bind (·.dst) = some dj) (hb : look K dj = some bv) (hw : (boolOf bv == some want) = false) (hd : o.dst = some d) (hn : d < n)
    (k : WL P E n ops rest ((d, undef) :: K) L Q) : WL P E n ops (o :: rest) K L Q := by
  intro a w hA hS
  refine wpList_step fun Kc hK => ?_
  have hy := yielded_of hA hj hb
  simp only [Region.wanted, hg, hy]
  rw [if_neg (by simpa using hw)]
  refine hK _ _ ?_
  rw [hd]
  exact k _ _ (hA.put hn undef) hS
theorem WL_gPT {d j dj : Nat} {want b : Bool} (hg : o.guard = some (j, want)) (hj : (ops[j]?).bind (·.dst) = some dj) (hb : look K dj = some (.bool b)) (hw : (b == want) = true) (hd : o.dst = some d) (hn : d < n)
    (h : Pure P E n o K L v) (k : WL P E n ops rest ((d, v) :: K) L Q) : WL P E n ops (o :: rest) K L Q := WL_gT hg hj hb hw hd hn (OpT_run h k)
theorem Pu_pickT {c x y : Operand} {b : Bool} (ho : o.op = .pick c x y) (hc : evK K c = some (.bool b)) (hb : b = true) (hx : evK K x = some v) : Pure P E n o K L v := fun a w hA hS => by
  subst hb
  simp [execOp, ho, hA.eval hc, hA.eval hx, asBool]
theorem Pu_pickF {c x y : Operand} {b : Bool} (ho : o.op = .pick c x y) (hc : evK K c = some (.bool b)) (hb : b = false) (hy : evK K y = some v) : Pure P E n o K L v := fun a w hA hS => by
  subst hb
  simp [execOp, ho, hA.eval hc, hA.eval hy, asBool]
theorem AH_takeT (i : Nat) {d j dj : Nat} {want b : Bool} (hi : ops[i]? = some o) (hs : Region.noSelect ops = true) (hf : Region.free .any ops listed i = true) (hr : (Region.ready .any ops listed).contains i = true)
    (hg : o.guard = some (j, want)) (hj : (ops[j]?).bind (·.dst) = some dj) (hb : look K dj = some (.bool b)) (hw : (b == want) = true) (hd : o.dst = some d) (hn : d < n)
    (h : Pure P E n o K S v) (k : AH P E n ops S fuel (listed.setIfInBounds i true) ((d, v) :: K) L Q) : AH P E n ops S (fuel + 1) listed K L Q := fun a w hA hS hh => by
  have hy := yielded_of hA hj hb
  exact wpAnyH_take hi hs hf hr (fun _ _ _ h => h.elim) (.inl ⟨by simpa [Region.wanted, hg, hy, boolOf] using hw, fun w' hw' => h a w' hA hw'⟩) hh (by rw [hd]; exact k _ _ (hA.put hn _) hS hh)
theorem AH_takeF (i : Nat) {d j dj : Nat} {want : Bool} {bv : Value} (hi : ops[i]? = some o) (hs : Region.noSelect ops = true) (hf : Region.free .any ops listed i = true) (hr : (Region.ready .any ops listed).contains i = true)
    (hg : o.guard = some (j, want)) (hj : (ops[j]?).bind (·.dst) = some dj) (hb : look K dj = some bv) (hw : (boolOf bv == some want) = false) (hd : o.dst = some d) (hn : d < n)
    (k : AH P E n ops S fuel (listed.setIfInBounds i true) ((d, undef) :: K) L Q) : AH P E n ops S (fuel + 1) listed K L Q := fun a w hA hS hh => by
  have hy := yielded_of hA hj hb
  exact wpAnyH_take hi hs hf hr (fun _ _ _ h => h.elim) (v := undef) (.inr ⟨by simpa [Region.wanted, hg, hy] using hw, rfl⟩) hh (by rw [hd]; exact k _ _ (hA.put hn _) hS hh)
theorem AHs_gT {i d j dj : Nat} {rs : List Nat} {want b : Bool} (hi : ops[i]? = some o) (hg : o.guard = some (j, want)) (hj : (ops[j]?).bind (·.dst) = some dj) (hb : look K dj = some (.bool b)) (hw : (b == want) = true) (hd : o.dst = some d) (hn : d < n)
    (h : OpT P E n o K L (fun v L' => AllIn L' S ∧ AH P E n ops S fuel (listed.setIfInBounds i true) ((d, v) :: K) L' Q)) (hs : AHs P E n ops S fuel listed K L Q rs) : AHs P E n ops S fuel listed K L Q (i :: rs) := fun j' hj' a w hA hS hh => by
  rcases List.mem_cons.1 hj' with rfl | hj'
  · refine wpOp_step hi fun Kc hK => ?_
    have hy := yielded_of hA hj hb
    simp only [Region.wanted, hg, hy, boolOf]
    rw [if_pos (by simpa using hw)]
    refine h a w Kc _ hA hS fun v L' w' ⟨c1, c2⟩ hS' => ?_
    rw [hd]
    have hh' := hS'.sub c1.look
    exact hK _ _ ⟨hh', c2 _ _ (hA.put hn v) hS' hh'⟩
  · exact hs j' hj' a w hA hS hh
theorem AHs_gF {i d j dj : Nat} {rs : List Nat} {want : Bool} {bv : Value} (hi : ops[i]? = some o) (hg : o.guard = some (j, want)) (hj : (ops[j]?).bind (·.dst) = some dj) (hb : look K dj = some bv) (hw : (boolOf bv == some want) = false) (hd : o.dst = some d) (hn : d < n)
    (k : AH P E n ops S fuel (listed.setIfInBounds i true) ((d, undef) :: K) L Q) (hs : AHs P E n ops S fuel listed K L Q rs) : AHs P E n ops S fuel listed K L Q (i :: rs) := fun j' hj' a w hA hS hh => by
  rcases List.mem_cons.1 hj' with rfl | hj'
  · refine wpOp_step hi fun Kc hK => ?_
    have hy := yielded_of hA hj hb
    simp only [Region.wanted, hg, hy]
    rw [if_neg (by simpa using hw)]
    rw [hd]
    exact hK _ _ ⟨hh, k _ _ (hA.put hn undef) hS hh⟩
  · exact hs j' hj' a w hA hS hh
theorem Pu_fieldAddrE {s f off k0 : Nat} {x : Operand} {A : Addr} (ho : o.op = .fieldAddr s x f) (hx : evK K x = some (.pointer (some (A.add k0)))) (hf : fieldOff P s f = some off) : Pure P E n o K L (.pointer (some (A.add (k0 + off)))) :=
  Pu_fieldAddr ho hx hf (add_of_add A k0 off)
theorem run_ptrNil {t e : TypeId} (hu : P.underlying t = some (.pointer e)) (A : Addr) (x y : Operand) (w : World) : ((do eqGuard .eql t x y (.pointer (some A)) (.pointer none); binOp .eql t (.pointer (some A)) (.pointer none) : Sem Value)).run P w = .ok (.bool false) w := by
  have h : (Op.equalIn (9999 + 1) t (.pointer (some A)) (.pointer none)).run P w = .ok false w := by
    unfold Op.equalIn
    simp [run_underlying hu]
  simp only [eqGuard, binOp, Op.equal, Sem.run_bind, Sem.run_pure, Result.andThen_ok]
  simp [show Op.maxDepth = 9999 + 1 from rfl, h]
end
theorem made_bytes (n : Nat) : List.replicate n (Value.int .u8 0) = bs (List.replicate n 0) := by simp [bs, bv]
end Go.Proofs.YtjiafaiklmbbeaaDoor
