/- Symbolic states: operations one after another, under guards, and in whatever order. -/
import Derived.Test.YtjiafaiklmbbeaaDoorSl1
namespace Go.Proofs.YtjiafaiklmbbeaaDoor
open Go.RowKit
set_option linter.unusedVariables false
section
variable {P : Program} {E : Env} {n : Nat} {K K' : Slots} {L L' : Res} {Q : Exit → Act → World → Prop} {ops : Array Oper} {o : Oper} {rest : List Oper} {C : Value → Res → Prop} {v : Value}
theorem W_regL {id : Nat} {l : List Oper} (h : WL P E n l.toArray l K L Q) : W P E n (.region id l.toArray false) K L Q := fun a w hA hS => wp_region_lit (h a w hA hS)
theorem WL_pure {d : Nat} (hg : o.guard = none) (hd : o.dst = some d) (hn : d < n) (h : Pure P E n o K L v) (k : WL P E n ops rest ((d, v) :: K) L Q) : WL P E n ops (o :: rest) K L Q :=
  WL_cons hg hd hn (OpT_run h k)
theorem WL_guardP {d j dj : Nat} {want b : Bool} {V : Value} (hg : o.guard = some (j, want)) (hj : (ops[j]?).bind (·.dst) = some dj) (hb : look K dj = some (.bool b)) (hd : o.dst = some d) (hn : d < n)
    (h : (b == want) = true → Pure P E n o K L V) (k : WL P E n ops rest ((d, gv (b == want) V) :: K) L Q) : WL P E n ops (o :: rest) K L Q :=
  WL_guard hg hj hb hd hn (fun hb => OpT_run (h hb) ⟨rfl, fun _ h => h⟩) k
theorem WL_guardP2 {d j dj : Nat} {want b c : Bool} {V : Value} (hg : o.guard = some (j, want)) (hj : (ops[j]?).bind (·.dst) = some dj) (hb : look K dj = some (gv c (.bool b))) (hd : o.dst = some d) (hn : d < n)
    (h : (c && (b == want)) = true → Pure P E n o K L V) (k : WL P E n ops rest ((d, gv (c && (b == want)) V) :: K) L Q) : WL P E n ops (o :: rest) K L Q :=
  WL_guard2 hg hj hb hd hn (fun hb => OpT_run (h hb) ⟨rfl, fun _ h => h⟩) k
/-- The guard is known to fail. -/
theorem WL_skip {d j dj : Nat} {want b : Bool} (hg : o.guard = some (j, want)) (hj : (ops[j]?).bind (·.dst) = some dj) (hb : look K dj = some (.bool b)) (hne : (b == want) = false) (hd : o.dst = some d) (hn : d < n)
    (k : WL P E n ops rest ((d, undef) :: K) L Q) : WL P E n ops (o :: rest) K L Q := fun a w hA hS => wpList_step fun Kc hK => by
  have hy := yielded_of hA hj hb
  simp only [Region.wanted, hg, hy, boolOf]
  rw [if_neg (by simpa using hne)]
  exact hK _ _ (by rw [hd]; exact k _ _ (hA.put hn undef) hS)
theorem WL_skipU {d j dj : Nat} {want : Bool} (hg : o.guard = some (j, want)) (hj : (ops[j]?).bind (·.dst) = some dj) (hb : look K dj = some undef) (hd : o.dst = some d) (hn : d < n)
    (k : WL P E n ops rest ((d, undef) :: K) L Q) : WL P E n ops (o :: rest) K L Q := fun a w hA hS => wpList_step fun Kc hK => by
  have hy := yielded_of hA hj hb
  simp only [Region.wanted, hg, hy, boolOf, undef]
  exact hK _ _ (by rw [hd]; exact k _ _ (hA.put hn undef) hS)
/-- The guard is known to hold. -/
theorem WL_go {d j dj : Nat} {want b : Bool} (hg : o.guard = some (j, want)) (hj : (ops[j]?).bind (·.dst) = some dj) (hb : look K dj = some (.bool b)) (hne : (b == want) = true) (hd : o.dst = some d) (hn : d < n)
    (h : OpT P E n o K L (fun v L' => WL P E n ops rest ((d, v) :: K) L' Q)) : WL P E n ops (o :: rest) K L Q := fun a w hA hS => wpList_step fun Kc hK => by
  have hy := yielded_of hA hj hb
  simp only [Region.wanted, hg, hy, boolOf]
  rw [if_pos (by simpa using hne)]
  exact h a w Kc Q hA hS fun v L' w' hC hS' => hK _ _ (by rw [hd]; exact hC _ _ (hA.put hn v) hS')
theorem WL_go0 {j dj : Nat} {want b : Bool} (hg : o.guard = some (j, want)) (hj : (ops[j]?).bind (·.dst) = some dj) (hb : look K dj = some (.bool b)) (hne : (b == want) = true) (hd : o.dst = none)
    (h : OpT P E n o K L (fun _ L' => WL P E n ops rest K L' Q)) : WL P E n ops (o :: rest) K L Q := fun a w hA hS => wpList_step fun Kc hK => by
  have hy := yielded_of hA hj hb
  simp only [Region.wanted, hg, hy, boolOf]
  rw [if_pos (by simpa using hne)]
  exact h a w Kc Q hA hS fun v L' w' hC hS' => hK _ _ (by rw [hd]; exact hC _ _ hA hS')
theorem WL_pre (h : WL P E n ops rest K' L' Q) (hK : AllIn K K') (hL : AllIn L L') : WL P E n ops rest K L Q := fun a w hA hS => h a w (hA.sub hK.look) (hS.sub hL.look)

/-! ### In whatever order -/
/-- A region whose operations come up in whatever order; S is what stays all the while. -/
def AH (P : Program) (E : Env) (n : Nat) (ops : Array Oper) (S : Res) (fuel : Nat) (listed : Array Bool) (K : Slots) (L : Res) (Q : Exit → Act → World → Prop) : Prop :=
  ∀ a w, Agr n K a → Sat E L w → Sat E S w → wpAnyH P .any ops (NoPanic Q) (fun w => Sat E S w) fuel listed a w
theorem W_draw {id N : Nat} {l : List Oper} (hm : P.follows .mixedOrders = true) (hN : l.length = N) (S : Res) (hL : AllIn L S) (h : AH P E n l.toArray S N (Array.replicate N false) K L Q) : W P E n (.region id l.toArray true) K L Q := fun a w hA hS => by
  refine wp_region_noPanic (wp_region_held_drew (S := fun w => Sat E S w) hm (hS.sub hL.look).drew fun hh => ?_)
  have : l.toArray.size = N := by simpa using hN
  rw [this]
  exact h a w.drew hA hS.drew hh
variable {S : Res} {fuel : Nat} {listed : Array Bool}
theorem AH_done (hr : Region.ready .any ops listed = []) (h : X E n Q .normal K L) : AH P E n ops S fuel listed K L Q := fun a w hA hS _ => wpAnyH_done (Q := NoPanic Q) hr (NoPanic.normal (h a w hA hS)) fuel
theorem AH_take (i : Nat) {d : Nat} (hi : ops[i]? = some o) (hs : Region.noSelect ops = true) (hf : Region.free .any ops listed i = true) (hr : (Region.ready .any ops listed).contains i = true) (hg : o.guard = none) (hd : o.dst = some d) (hn : d < n)
    (h : Pure P E n o K S v) (k : AH P E n ops S fuel (listed.setIfInBounds i true) ((d, v) :: K) L Q) : AH P E n ops S (fuel + 1) listed K L Q := fun a w hA hS hh =>
  wpAnyH_take hi hs hf hr (fun _ _ _ h => h.elim) (.inl ⟨by simp [Region.wanted, hg], fun w' hw' => h a w' hA hw'⟩) hh (by rw [hd]; exact k _ _ (hA.put hn v) hS hh)
theorem AH_takeG (i : Nat) {d j dj : Nat} {want b : Bool} {V : Value} (hi : ops[i]? = some o) (hs : Region.noSelect ops = true) (hf : Region.free .any ops listed i = true) (hr : (Region.ready .any ops listed).contains i = true)
    (hg : o.guard = some (j, want)) (hj : (ops[j]?).bind (·.dst) = some dj) (hb : look K dj = some (.bool b)) (hd : o.dst = some d) (hn : d < n)
    (h : (b == want) = true → Pure P E n o K S V) (k : AH P E n ops S fuel (listed.setIfInBounds i true) ((d, gv (b == want) V) :: K) L Q) : AH P E n ops S (fuel + 1) listed K L Q := fun a w hA hS hh => by
  have hy := yielded_of hA hj hb
  refine wpAnyH_take hi hs hf hr (fun _ _ _ h => h.elim) (v := gv (b == want) V) ?_ hh (by rw [hd]; exact k _ _ (hA.put hn _) hS hh)
  cases hbw : (b == want) with
  | true => exact .inl ⟨by simpa [Region.wanted, hg, hy, boolOf] using hbw, fun w' hw' => h hbw a w' hA hw'⟩
  | false => exact .inr ⟨by simpa [Region.wanted, hg, hy, boolOf] using hbw, rfl⟩
theorem AH_takeG2 (i : Nat) {d j dj : Nat} {want b c : Bool} {V : Value} (hi : ops[i]? = some o) (hs : Region.noSelect ops = true) (hf : Region.free .any ops listed i = true) (hr : (Region.ready .any ops listed).contains i = true)
    (hg : o.guard = some (j, want)) (hj : (ops[j]?).bind (·.dst) = some dj) (hb : look K dj = some (gv c (.bool b))) (hd : o.dst = some d) (hn : d < n)
    (h : (c && (b == want)) = true → Pure P E n o K S V) (k : AH P E n ops S fuel (listed.setIfInBounds i true) ((d, gv (c && (b == want)) V) :: K) L Q) : AH P E n ops S (fuel + 1) listed K L Q := fun a w hA hS hh => by
  have hy := yielded_of hA hj hb
  refine wpAnyH_take hi hs hf hr (fun _ _ _ h => h.elim) (v := gv (c && (b == want)) V) ?_ hh (by rw [hd]; exact k _ _ (hA.put hn _) hS hh)
  cases c with
  | false => exact .inr ⟨by simp [Region.wanted, hg, hy, boolOf, gv, undef], rfl⟩
  | true =>
    cases hbw : (b == want) with
    | true => exact .inl ⟨by simpa [Region.wanted, hg, hy, boolOf, gv] using hbw, fun w' hw' => h (by simpa using hbw) a w' hA hw'⟩
    | false => exact .inr ⟨by simpa [Region.wanted, hg, hy, boolOf, gv] using hbw, rfl⟩
/-- Each of these may come up next. -/
def AHs (P : Program) (E : Env) (n : Nat) (ops : Array Oper) (S : Res) (fuel : Nat) (listed : Array Bool) (K : Slots) (L : Res) (Q : Exit → Act → World → Prop) (rs : List Nat) : Prop :=
  ∀ i ∈ rs, ∀ a w, Agr n K a → Sat E L w → Sat E S w → wpOp P ops (NoPanic Q) i (fun a' w' => Sat E S w' ∧ wpAnyH P .any ops (NoPanic Q) (fun w => Sat E S w) fuel (listed.setIfInBounds i true) a' w') a w
theorem AH_ready (rs : List Nat) (hr : Region.ready .any ops listed = rs) (hne : rs ≠ []) (h : AHs P E n ops S fuel listed K L Q rs) : AH P E n ops S (fuel + 1) listed K L Q := fun a w hA hS hh =>
  wpAnyH_ready hr hne fun i hi => h i hi a w hA hS hh
theorem AHs_nil : AHs P E n ops S fuel listed K L Q [] := fun i hi => by cases hi
theorem AHs_cons {i d : Nat} {rs : List Nat} (hi : ops[i]? = some o) (hg : o.guard = none) (hd : o.dst = some d) (hn : d < n) (h : OpT P E n o K L (fun v L' => AllIn L' S ∧ AH P E n ops S fuel (listed.setIfInBounds i true) ((d, v) :: K) L' Q))
    (hs : AHs P E n ops S fuel listed K L Q rs) : AHs P E n ops S fuel listed K L Q (i :: rs) := fun j hj a w hA hS hh => by
  rcases List.mem_cons.1 hj with rfl | hj
  · refine wpOp_step hi fun Kc hK => ?_
    rw [if_pos (by simp [Region.wanted, hg])]
    refine h a w Kc _ hA hS fun v L' w' ⟨c1, c2⟩ hS' => ?_
    rw [hd]
    have hh' := hS'.sub c1.look
    exact hK _ _ ⟨hh', c2 _ _ (hA.put hn v) hS' hh'⟩
  · exact hs j hj a w hA hS hh
theorem AHs_cons0 {i : Nat} {rs : List Nat} (hi : ops[i]? = some o) (hg : o.guard = none) (hd : o.dst = none) (h : OpT P E n o K L (fun v L' => AllIn L' S ∧ AH P E n ops S fuel (listed.setIfInBounds i true) K L' Q))
    (hs : AHs P E n ops S fuel listed K L Q rs) : AHs P E n ops S fuel listed K L Q (i :: rs) := fun j hj a w hA hS hh => by
  rcases List.mem_cons.1 hj with rfl | hj
  · refine wpOp_step hi fun Kc hK => ?_
    rw [if_pos (by simp [Region.wanted, hg])]
    refine h a w Kc _ hA hS fun v L' w' ⟨c1, c2⟩ hS' => ?_
    rw [hd]
    have hh' := hS'.sub c1.look
    exact hK _ _ ⟨hh', c2 _ _ hA hS' hh'⟩
  · exact hs j hj a w hA hS hh
/-- One under a guard, that leaves the resources as they are. -/
theorem AHs_consG {i d j dj : Nat} {rs : List Nat} {want b : Bool} {V : Value} (hi : ops[i]? = some o) (hg : o.guard = some (j, want)) (hj : (ops[j]?).bind (·.dst) = some dj) (hb : look K dj = some (.bool b)) (hd : o.dst = some d) (hn : d < n)
    (h : (b == want) = true → OpT P E n o K L (fun v L' => v = V ∧ ∀ w, Sat E L' w → Sat E L w)) (hL : AllIn L S) (k : AH P E n ops S fuel (listed.setIfInBounds i true) ((d, gv (b == want) V) :: K) L Q)
    (hs : AHs P E n ops S fuel listed K L Q rs) : AHs P E n ops S fuel listed K L Q (i :: rs) := fun j' hj' a w hA hS hh => by
  rcases List.mem_cons.1 hj' with rfl | hj'
  · refine wpOp_step hi fun Kc hK => ?_
    have hy := yielded_of hA hj hb
    simp only [Region.wanted, hg, hy, boolOf]
    cases hbw : (b == want) with
    | true =>
      rw [if_pos (by simpa using hbw)]
      refine h hbw a w Kc _ hA hS fun v L' w' ⟨c1, c2⟩ hS' => ?_
      rw [hd, c1]
      rw [hbw] at k
      have h2 := c2 w' hS'
      exact hK _ _ ⟨h2.sub hL.look, k _ _ (hA.put hn V) h2 (h2.sub hL.look)⟩
    | false =>
      rw [if_neg (by simpa using hbw)]
      rw [hd]
      rw [hbw] at k
      exact hK _ _ ⟨hh, k _ _ (hA.put hn undef) hS hh⟩
  · exact hs j' hj' a w hA hS hh
end
end Go.Proofs.YtjiafaiklmbbeaaDoor
