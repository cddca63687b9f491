/- Texts of this proof, one behind the other: Sl10, Sl11, Sl12, Cat, Sl13, Rec, SortK, KeyL, Bk, AreaC1, Ti, MapQ, Rf, AreaV, AreaW, AreaX, Area1, Area2, AreaA, AreaB, Area3, LibC. -/
import Derived.Test.YtjopgnkffhfhkaaK1
import Derived.Laws.CopyRow
import Derived.Lib.MapLaws
import Derived.Shelf.SlSortCmp.NoneTotal
import Derived.Lib.BytesEntry
import GoSem.Extern.BytealgCompare
import Derived.Test.YtjopgnkffhfhkaaProg
import Derived.Maps.RangeRun
import Derived.RangeFuncLeaves
import Derived.RangeFuncSeq
import Derived.OwnWalkIn
/- Symbolic states, part 10: a row opened as a block: slices within its room, appends in place, clear. -/
namespace Go.Proofs.Ytjopgnkffhfhkaa
open Go.RowKit
set_option linter.unusedVariables false
set_option linter.unusedSimpArgs false
theorem rowP_open {e : TypeId} {size : Nat} {v : Value} {n : Nat} {xs : List Value} {h : Hlt} (hr : rowP e size v n xs h) (hn : 0 < n) :
    ∃ q : Nat × Nat × List Value, v = .slice (some ⟨q.1, 0, none⟩) n q.2.1 ∧ n ≤ q.2.1 ∧ q.2.1 ≤ maxLen ∧ q.2.2.length = q.2.1 * size ∧ q.2.2.take (n * size) = xs ∧ blk q.1 e q.2.2 h := by
  obtain ⟨h1, h2⟩ := hr
  rcases h2 with ⟨rfl, rfl⟩ | ⟨g, cap, cur, rfl, hg, hnc, hm, hs, ht⟩
  · omega
  · exact ⟨(g, cap, cur.toList), rfl, hnc, hm, by simpa using hs, ht, by simpa [blk] using hg⟩
theorem rowP_close {e g cap : Nat} {size n : Nat} {cs xs : List Value} {h : Hlt} (hb : blk g e cs h) (hnc : n ≤ cap) (hm : cap ≤ maxLen) (hs : cs.length = cap * size) (hx : cs.take (n * size) = xs) : rowP e size (.slice (some ⟨g, 0, none⟩) n cap) n xs h := by
  have hle := Nat.mul_le_mul_right size hnc
  refine ⟨by rw [← hx, List.length_take]; omega, .inr ⟨g, cap, cs.toArray, rfl, hb, hnc, hm, by simpa using hs, by simpa using hx⟩⟩
theorem blk_rdP {e g cap : Nat} {size n : Nat} {cs xs : List Value} {h : Hlt} (hb : blk g e cs h) (hnc : n ≤ cap) (hs : cs.length = cap * size) (hx : cs.take (n * size) = xs) : rdP size (.slice (some ⟨g, 0, none⟩) n cap) n xs h :=
  blk_rd hb (by simpa using hx) (by rw [← hx, List.length_take]; have := Nat.mul_le_mul_right size hnc; omega) hnc
section
variable {P : Program} {E : Env} {n : Nat} {K : Slots} {L : Res} {o : Oper} {C : Value → Res → Prop} {Q : Exit → Act → World → Prop} {c : Code}
theorem W_openRow (r : Nat) {e : TypeId} {size : Nat} {v : Value} {m : Nat} {xs : List Value} (hr : look L r = some (rowP e size v m xs)) (hm : 0 < m)
    (k : ∀ g cap cs, v = .slice (some ⟨g, 0, none⟩) m cap → m ≤ cap → cap ≤ maxLen → cs.length = cap * size → cs.take (m * size) = xs → W P E n c K ((r, blk g e cs) :: L) Q) : W P E n c K L Q := fun a w hA hS => by
  obtain ⟨q, hS2⟩ := hS.ex hr (fun h hp => rowP_open hp hm)
  obtain ⟨h1, h2, h3, h4, h5⟩ : v = .slice (some ⟨q.1, 0, none⟩) m q.2.1 ∧ m ≤ q.2.1 ∧ q.2.1 ≤ maxLen ∧ q.2.2.length = q.2.1 * size ∧ q.2.2.take (m * size) = xs := hS2.get (look_same _ _ _) fun h hp => ⟨hp.1, hp.2.1, hp.2.2.1, hp.2.2.2.1, hp.2.2.2.2.1⟩
  have hS3 := hS2.cons (P' := blk q.1 e q.2.2) (look_same _ _ _) fun h hp => hp.2.2.2.2.2
  refine k q.1 q.2.1 q.2.2 h1 h2 h3 h4 h5 a w hA (hS3.sub fun r' P' h => ?_)
  by_cases hrr : r = r'
  · subst hrr; rw [look_same] at h ⊢; exact h
  · rw [look_other hrr] at h; rw [look_other hrr, look_other hrr]; exact h
/-- v[a:b:c], only the bounds are asked. -/
theorem Pu_slice3 {t r e size m a b d : Nat} {x lo hi mx : Operand} {v : Value} {xs : List Value} {Pr : HP} {kl kh km : IntKind} (ho : o.op = .slice t x (some lo) (some hi) (some mx)) (hu : ∀ w, (underlying t).run P w = .ok (.slice e) w) (hs : ∀ w, (sizeOf e).run P w = .ok size w)
    (hx : evK K x = some v) (hr : look L r = some Pr) (hrd : ∀ h, Pr h → rdP size v m xs h) (hlo : evK K lo = some (.int kl (a : Int))) (hhi : evK K hi = some (.int kh (b : Int))) (hmx : evK K mx = some (.int km (d : Int))) (hab : a ≤ b) (hbd : b ≤ d) (hdm : d ≤ m) :
    Pure P E n o K L (.slice (if d = a then (match v with | .slice A _ _ => A | _ => none) else (match v with | .slice A _ _ => A.map (·.add (a * size)) | _ => none)) (b - a) (d - a)) := fun ac w hA hS => by
  obtain ⟨A, cp, hv, hmc⟩ : ∃ A c, v = .slice A m c ∧ m ≤ c := hS.get hr (fun h hp => by obtain ⟨_, A, c, h2, h3, _⟩ := hrd h hp; exact ⟨A, c, h2, h3⟩)
  subst hv
  have sb : ∀ (k : IntKind) (a y : Nat) (code : BoundsCode), a ≤ y → (Instr.sliceBound (.int k (a : Int)) y code).run P w = .ok a w := by
    intro k a y code h
    simp only [Instr.sliceBound, asIntOf, Sem.run_bind, Sem.run_pure, Result.andThen_ok]
    rw [if_pos (by omega)]
    simp
  have hb : (Instr.sliceBounds true m cp (some (.int kl (a : Int))) (some (.int kh (b : Int))) (some (.int km (d : Int)))).run P w = .ok (a, b, d) w := by
    unfold Instr.sliceBounds
    simp only [Sem.run_bind, Sem.run_pure, Result.andThen_ok, sb _ _ _ _ (show d ≤ cp by omega), sb _ _ _ _ hbd, sb _ _ _ _ hab]
  simp only [execOp, ho, hA.eval hx, Option.map_some, hA.eval hlo, hA.eval hhi, hA.eval hmx, Sem.run_bind]
  unfold Instr.sliceAt
  simp only [Sem.run_bind, hu, Result.andThen_ok]
  unfold Instr.slice
  simp only [Sem.run_bind, hu, Result.andThen_ok, hb, hs, Sem.run_pure]
/-- v[a:b] of a row opened, within its room. -/
theorem Pu_sliceK {t e size m cap g a b : Nat} {x : Operand} {lo hi : Option Operand} (ho : o.op = .slice t x lo hi none) (hu : ∀ w, (underlying t).run P w = .ok (.slice e) w) (hs : ∀ w, (sizeOf e).run P w = .ok size w)
    (hx : evK K x = some (.slice (some ⟨g, 0, none⟩) m cap)) (hlo : (lo = none ∧ a = 0) ∨ ∃ y k i, lo = some y ∧ evK K y = some (.int k i) ∧ i = (a : Int)) (hhi : (hi = none ∧ b = m) ∨ ∃ y k i, hi = some y ∧ evK K y = some (.int k i) ∧ i = (b : Int)) (hab : a ≤ b) (hbc : b ≤ cap) (hac : a < cap) :
    Pure P E n o K L (.slice (some ⟨g, a * size, none⟩) (b - a) (cap - a)) := fun ac w hA hS => by
  have := run_slice_sub (P := P) w (v := .slice (some ⟨g, 0, none⟩) m cap) rfl hu hs (lo := lo.map ac.eval) (hi := hi.map ac.eval) (a := a) (b := b)
    (by rcases hlo with ⟨rfl, rfl⟩ | ⟨y, k, i, rfl, hy, hi⟩
        · exact .inl ⟨rfl, rfl⟩
        · exact .inr ⟨k, i, by simp [hA.eval hy], hi⟩)
    (by rcases hhi with ⟨rfl, rfl⟩ | ⟨y, k, i, rfl, hy, hi⟩
        · exact .inl ⟨rfl, rfl⟩
        · exact .inr ⟨k, i, by simp [hA.eval hy], hi⟩) hab hbc
  have hv : subV size (.slice (some ⟨g, 0, none⟩) m cap) a b = .slice (some ⟨g, a * size, none⟩) (b - a) (cap - a) := by
    unfold subV
    simp [show ¬ cap = a by omega, addr_add0]
  rw [hv] at this
  simp only [execOp, ho, hA.eval hx, Sem.run_bind, Option.map_none, this]
  rfl
theorem over_nil {α : Type} (cs : List α) (k : Nat) : over cs k [] = cs := by simp [over]
theorem run_append_in (w : World) (t ty e : TypeId) (i : TypeInfo) (ht : P.underlying t = some (.slice e)) (hi : P.info? e = some i) {g k cap : Nat} {te : TypeId} {cs news : List Value} {vy : Value} {m : Nat} (hg : w.heap[g]? = some (.cells cs.toArray te (0, 0))) (hr : Rd w i.size vy m news) (h1 : ∀ u ∈ news, u.oneCell' = true)
    (hroom : k + m ≤ cap) (hfit : (k + m) * i.size ≤ cs.length) :
    (Builtin.append_ #[t, t] ty #[.slice (some ⟨g, 0, none⟩) k cap, vy]).run P w = .ok (.slice (some ⟨g, 0, none⟩) (k + m) cap) (w.setRow g (over cs (k * i.size) news).toArray) := by
  obtain ⟨hl, A, c, rfl, hn, h0, hrd⟩ := hr
  have hfc : (Builtin.firstCells i.size m (.slice A m c)).run P w = .ok news.toArray w := by
    cases A with
    | none =>
      have hm : m = 0 := by have := h0 rfl; omega
      subst hm
      have hn' : news = [] := List.eq_nil_of_length_eq_zero (by simpa using hl)
      subst hn'
      rfl
    | some ad => exact run_firstCells_some (P := P) w i.size m ad m c news hl (hrd ad rfl).2
  have hst := run_storeCells_at P g (k * i.size) te news 0 cs.toArray w hg (by rw [Nat.add_mul] at hfit; simpa [hl] using hfit) h1
  simp only [Nat.add_zero] at hst
  have hov : over cs (k * i.size) news = List.take (k * i.size) cs ++ news ++ List.drop (k * i.size + news.length) cs := by simp [over]
  rw [hov]
  simp [Builtin.append_, run_underlying ht, sizeOf, typeInfo, hi, Builtin.lenOf, hroom, hfc, addr_add0, hst]
/-- append in a row's own room. -/
theorem OpT_appendIn {t r r2 e te g k cap m size : Nat} {x y : Operand} {vy : Value} {cs cs' news : List Value} {P2 : HP} {i : TypeInfo} (ho : o.op = .call { callee := .builtin .append, args := #[x, y], argTypes := #[t, t] }) (ht : P.underlying t = some (.slice e)) (hi : P.info? e = some i) (hsize : i.size = size) (hsz : 0 < size)
    (hx : evK K x = some (.slice (some ⟨g, 0, none⟩) k cap)) (hy : evK K y = some vy) (hr : look L r = some (blk g te cs)) (hr2 : look L r2 = some P2) (hrd : ∀ h, P2 h → rdP size vy m news h) (h1 : ∀ u ∈ news, u.oneCell' = true) (hroom : k + m ≤ cap) (hfit : (k + m) * size ≤ cs.length)
    (hcs : over cs (k * size) news = cs') (hc : C (.slice (some ⟨g, 0, none⟩) (k + m) cap) ((r, blk g te cs') :: L)) : OpT P E n o K L C := fun a w Kc Q hA hS hK => by
  subst hsize
  have hg : w.heap[g]? = some (.cells cs.toArray te (0, 0)) := by
    obtain ⟨h, q1, q2⟩ := hS.read hr
    exact q2 _ _ q1
  obtain ⟨h2, q1, q2⟩ := hS.read hr2
  have hRd := rdP_Rd (hrd h2 q1) q2 hsz
  have hrun := run_append_in (P := P) w t o.type e i ht hi hg hRd h1 hroom hfit
  unfold Oper.wp execOp
  simp only [ho, resolve, invoke, builtin, Sem.run_bind, Sem.run_pure, Result.andThen_ok, List.map_toArray, List.map_cons, List.map_nil, hA.eval hx, hA.eval hy, hrun]
  refine hK _ _ _ hc (hS.setRow hr _ (fun h hp => ⟨_, hp⟩) fun h hh => ?_)
  rw [← hcs]
  exact hh
/-- clear of a part of a row. -/
theorem OpT_clearB {t r e te g off m cap size : Nat} {x : Operand} {cs : List Value} {z : Value} (ho : o.op = .call { callee := .builtin .clear, args := #[x], argTypes := #[t] }) (ht : P.underlying t = some (.slice e)) (hz : ∀ w, (zeroValue e).run P w = .ok z w) (hzs : z.cells.size = size) (hz1 : ∀ u ∈ z.cells.toList, u.oneCell' = true)
    (hx : evK K x = some (.slice (some ⟨g, off, none⟩) m cap)) (hr : look L r = some (blk g te cs)) (hfit : off + m * size ≤ cs.length) (k : ∀ zs, zs.length = m * size → C (.tuple #[]) ((r, blk g te (over cs off zs)) :: L)) : OpT P E n o K L C := fun a w Kc Q hA hS hK => by
  have hg : w.heap[g]? = some (.cells cs.toArray te (0, 0)) := by
    obtain ⟨h, q1, q2⟩ := hS.read hr
    exact q2 _ _ q1
  have hlen : (Builtin.zeroCells z.cells m).toList.length = m * size := by rw [Array.length_toList, size_zeroCells, hzs]
  have hone : ∀ u ∈ (Builtin.zeroCells z.cells m).toList, u.oneCell' = true := by
    intro u hu
    unfold Builtin.zeroCells at hu
    simp only [Array.toList_map, Array.toList_range, List.mem_map, List.mem_range] at hu
    obtain ⟨i, hi, rfl⟩ := hu
    have hp : 0 < z.cells.size := by rcases Nat.eq_zero_or_pos z.cells.size with h | h; rw [h] at hi; simp at hi; exact h
    have hlt : i % z.cells.size < z.cells.size := Nat.mod_lt _ hp
    rw [getElem!_pos z.cells _ hlt]
    exact hz1 _ (by simp)
  by_cases hm : m = 0
  · subst hm
    have hrun : (Builtin.clear_ #[t] o.type #[.slice (some ⟨g, off, none⟩) 0 cap]).run P w = .ok (.tuple #[]) w := by simp [Builtin.clear_, run_underlying ht]
    unfold Oper.wp execOp
    simp only [ho, resolve, invoke, builtin, Sem.run_bind, Sem.run_pure, Result.andThen_ok, List.map_toArray, List.map_cons, List.map_nil, hA.eval hx, hrun]
    have hk := k [] (by simp)
    rw [over_nil] at hk
    exact hK _ _ _ hk (hS.cons hr fun h hp => hp)
  · have hst := run_storeCells_at P g off te (Builtin.zeroCells z.cells m).toList 0 cs.toArray w hg (by rw [hlen]; simpa using hfit) hone
    simp only [Nat.add_zero] at hst
    have hrun : (Builtin.clear_ #[t] o.type #[.slice (some ⟨g, off, none⟩) m cap]).run P w = .ok (.tuple #[]) (w.setRow g (over cs off (Builtin.zeroCells z.cells m).toList).toArray) := by
      have hov : over cs off (Builtin.zeroCells z.cells m).toList = List.take off cs ++ (Builtin.zeroCells z.cells m).toList ++ List.drop (off + (Builtin.zeroCells z.cells m).toList.length) cs := by simp [over]
      rw [hov]
      cases m with
      | zero => exact absurd rfl hm
      | succ m => simp [Builtin.clear_, run_underlying ht, hz, hst]
    unfold Oper.wp execOp
    simp only [ho, resolve, invoke, builtin, Sem.run_bind, Sem.run_pure, Result.andThen_ok, List.map_toArray, List.map_cons, List.map_nil, hA.eval hx, hrun]
    exact hK _ _ _ (k _ hlen) (hS.setRow hr _ (fun h hp => ⟨_, hp⟩) fun h hh => hh)
end
end Go.Proofs.Ytjopgnkffhfhkaa
/- Symbolic states, part 11: guards that are known. -/
namespace Go.Proofs.Ytjopgnkffhfhkaa
open Go.RowKit
set_option linter.unusedVariables false
set_option linter.unusedSimpArgs false
section
variable {P : Program} {E : Env} {n : Nat} {K : Slots} {L : Res} {Q : Exit → Act → World → Prop} {ops : Array Oper} {rest : List Oper} {o : Oper} {v : Value} {S : Res} {fuel : Nat} {listed : Array Bool}
theorem WL_gT {d j dj : Nat} {want b : Bool} (hg : o.guard = some (j, want)) (hj : (ops[j]?).bind (·.dst) = some dj) (hb : look K dj = some (.bool b)) (hw : (b == want) = true) (hd : o.dst = some d) (hn : d < n)
    (h : OpT P E n o K L (fun v L' => WL P E n ops rest ((d, v) :: K) L' Q)) : WL P E n ops (o :: rest) K L Q := by
  intro a w hA hS
  refine wpList_step fun Kc hK => ?_
  have hy := yielded_of hA hj hb
  simp only [Region.wanted, hg, hy, boolOf]
  rw [if_pos (by simpa using hw)]
  refine h a w Kc Q hA hS fun v L' w' hk hS' => hK _ _ ?_
  rw [hd]
  exact hk _ _ (hA.put hn v) hS'
theorem WL_gT0 {j dj : Nat} {want b : Bool} (hg : o.guard = some (j, want)) (hj : (ops[j]?).bind (·.dst) = some dj) (hb : look K dj = some (.bool b)) (hw : (b == want) = true) (hd : o.dst = none)
    (h : OpT P E n o K L (fun v L' => WL P E n ops rest K L' Q)) : WL P E n ops (o :: rest) K L Q := by
  intro a w hA hS
  refine wpList_step fun Kc hK => ?_
  have hy := yielded_of hA hj hb
  simp only [Region.wanted, hg, hy, boolOf]
  rw [if_pos (by simpa using hw)]
  refine h a w Kc Q hA hS fun v L' w' hk hS' => hK _ _ ?_
  rw [hd]
  exact hk _ _ hA hS'
theorem WL_gF {d j dj : Nat} {want : Bool} {bv : Value} (hg : o.guard = some (j, want)) (hj : (ops[j]?).bind (·.dst) = some dj) (hb : look K dj = some bv) (hw : (boolOf bv == some want) = false) (hd : o.dst = some d) (hn : d < n)
    (k : WL P E n ops rest ((d, undef) :: K) L Q) : WL P E n ops (o :: rest) K L Q := by
  intro a w hA hS
  refine wpList_step fun Kc hK => ?_
  have hy := yielded_of hA hj hb
  simp only [Region.wanted, hg, hy]
  rw [if_neg (by simpa using hw)]
  refine hK _ _ ?_
  rw [hd]
  exact k _ _ (hA.put hn undef) hS
theorem WL_gPT {d j dj : Nat} {want b : Bool} (hg : o.guard = some (j, want)) (hj : (ops[j]?).bind (·.dst) = some dj) (hb : look K dj = some (.bool b)) (hw : (b == want) = true) (hd : o.dst = some d) (hn : d < n)
    (h : Pure P E n o K L v) (k : WL P E n ops rest ((d, v) :: K) L Q) : WL P E n ops (o :: rest) K L Q := WL_gT hg hj hb hw hd hn (OpT_run h k)
theorem Pu_pickT {c x y : Operand} {b : Bool} (ho : o.op = .pick c x y) (hc : evK K c = some (.bool b)) (hb : b = true) (hx : evK K x = some v) : Pure P E n o K L v := fun a w hA hS => by
  subst hb
  simp [execOp, ho, hA.eval hc, hA.eval hx, asBool]
theorem Pu_pickF {c x y : Operand} {b : Bool} (ho : o.op = .pick c x y) (hc : evK K c = some (.bool b)) (hb : b = false) (hy : evK K y = some v) : Pure P E n o K L v := fun a w hA hS => by
  subst hb
  simp [execOp, ho, hA.eval hc, hA.eval hy, asBool]
theorem AH_takeT (i : Nat) {d j dj : Nat} {want b : Bool} (hi : ops[i]? = some o) (hs : Region.noSelect ops = true) (hf : Region.free .any ops listed i = true) (hr : (Region.ready .any ops listed).contains i = true)
    (hg : o.guard = some (j, want)) (hj : (ops[j]?).bind (·.dst) = some dj) (hb : look K dj = some (.bool b)) (hw : (b == want) = true) (hd : o.dst = some d) (hn : d < n)
    (h : Pure P E n o K S v) (k : AH P E n ops S fuel (listed.setIfInBounds i true) ((d, v) :: K) L Q) : AH P E n ops S (fuel + 1) listed K L Q := fun a w hA hS hh => by
  have hy := yielded_of hA hj hb
  exact wpAnyH_take hi hs hf hr (fun _ _ _ h => h.elim) (.inl ⟨by simpa [Region.wanted, hg, hy, boolOf] using hw, fun w' hw' => h a w' hA hw'⟩) hh (by rw [hd]; exact k _ _ (hA.put hn _) hS hh)
theorem AH_takeF (i : Nat) {d j dj : Nat} {want : Bool} {bv : Value} (hi : ops[i]? = some o) (hs : Region.noSelect ops = true) (hf : Region.free .any ops listed i = true) (hr : (Region.ready .any ops listed).contains i = true)
    (hg : o.guard = some (j, want)) (hj : (ops[j]?).bind (·.dst) = some dj) (hb : look K dj = some bv) (hw : (boolOf bv == some want) = false) (hd : o.dst = some d) (hn : d < n)
    (k : AH P E n ops S fuel (listed.setIfInBounds i true) ((d, undef) :: K) L Q) : AH P E n ops S (fuel + 1) listed K L Q := fun a w hA hS hh => by
  have hy := yielded_of hA hj hb
  exact wpAnyH_take hi hs hf hr (fun _ _ _ h => h.elim) (v := undef) (.inr ⟨by simpa [Region.wanted, hg, hy] using hw, rfl⟩) hh (by rw [hd]; exact k _ _ (hA.put hn _) hS hh)
theorem AHs_gT {i d j dj : Nat} {rs : List Nat} {want b : Bool} (hi : ops[i]? = some o) (hg : o.guard = some (j, want)) (hj : (ops[j]?).bind (·.dst) = some dj) (hb : look K dj = some (.bool b)) (hw : (b == want) = true) (hd : o.dst = some d) (hn : d < n)
    (h : OpT P E n o K L (fun v L' => AllIn L' S ∧ AH P E n ops S fuel (listed.setIfInBounds i true) ((d, v) :: K) L' Q)) (hs : AHs P E n ops S fuel listed K L Q rs) : AHs P E n ops S fuel listed K L Q (i :: rs) := fun j' hj' a w hA hS hh => by
  rcases List.mem_cons.1 hj' with rfl | hj'
  · refine wpOp_step hi fun Kc hK => ?_
    have hy := yielded_of hA hj hb
    simp only [Region.wanted, hg, hy, boolOf]
    rw [if_pos (by simpa using hw)]
    refine h a w Kc _ hA hS fun v L' w' ⟨c1, c2⟩ hS' => ?_
    rw [hd]
    have hh' := hS'.sub c1.look
    exact hK _ _ ⟨hh', c2 _ _ (hA.put hn v) hS' hh'⟩
  · exact hs j' hj' a w hA hS hh
theorem AHs_gF {i d j dj : Nat} {rs : List Nat} {want : Bool} {bv : Value} (hi : ops[i]? = some o) (hg : o.guard = some (j, want)) (hj : (ops[j]?).bind (·.dst) = some dj) (hb : look K dj = some bv) (hw : (boolOf bv == some want) = false) (hd : o.dst = some d) (hn : d < n)
    (k : AH P E n ops S fuel (listed.setIfInBounds i true) ((d, undef) :: K) L Q) (hs : AHs P E n ops S fuel listed K L Q rs) : AHs P E n ops S fuel listed K L Q (i :: rs) := fun j' hj' a w hA hS hh => by
  rcases List.mem_cons.1 hj' with rfl | hj'
  · refine wpOp_step hi fun Kc hK => ?_
    have hy := yielded_of hA hj hb
    simp only [Region.wanted, hg, hy]
    rw [if_neg (by simpa using hw)]
    rw [hd]
    exact hK _ _ ⟨hh, k _ _ (hA.put hn undef) hS hh⟩
  · exact hs j' hj' a w hA hS hh
theorem Pu_fieldAddrE {s f off k0 : Nat} {x : Operand} {A : Addr} (ho : o.op = .fieldAddr s x f) (hx : evK K x = some (.pointer (some (A.add k0)))) (hf : fieldOff P s f = some off) : Pure P E n o K L (.pointer (some (A.add (k0 + off)))) :=
  Pu_fieldAddr ho hx hf (add_of_add A k0 off)
theorem run_ptrNil {t e : TypeId} (hu : P.underlying t = some (.pointer e)) (A : Addr) (x y : Operand) (w : World) : ((do eqGuard .eql t x y (.pointer (some A)) (.pointer none); binOp .eql t (.pointer (some A)) (.pointer none) : Sem Value)).run P w = .ok (.bool false) w := by
  have h : (Op.equalIn (9999 + 1) t (.pointer (some A)) (.pointer none)).run P w = .ok false w := by
    unfold Op.equalIn
    simp [run_underlying hu]
  simp only [eqGuard, binOp, Op.equal, Sem.run_bind, Sem.run_pure, Result.andThen_ok]
  simp [show Op.maxDepth = 9999 + 1 from rfl, h]
end
theorem made_bytes (n : Nat) : List.replicate n (Value.int .u8 0) = bs (List.replicate n 0) := by simp [bs, bv]
end Go.Proofs.Ytjopgnkffhfhkaa
/- Symbolic states, part 12: ranges over strings. -/
namespace Go.Proofs.Ytjopgnkffhfhkaa
open Go.RowKit
set_option linter.unusedVariables false
set_option linter.unusedSimpArgs false
/-- A string's iterator. -/
def iterP (g : Nat) (s : ByteArray) (pos : Nat) : HP := fun h => h g = some (.stringIter s pos)
section
variable {P : Program} {E : Env} {n : Nat} {K : Slots} {L : Res} {o : Oper} {C : Value → Res → Prop}
theorem OpT_next {r g pos : Nat} {s : ByteArray} {x : Operand} (ho : o.op = .next x true) (hx : evK K x = some (.pointer (some ⟨g, 0, none⟩))) (hr : look L r = some (iterP g s pos))
    (hmore : pos < s.size → C (.tuple #[.bool true, .int .i64 (pos : Int), .int .i32 ((Utf8.decode s pos).1 : Int)]) ((r, iterP g s (pos + (Utf8.decode s pos).2)) :: L)) (hend : s.size ≤ pos → C (.tuple #[.bool false]) L) : OpT P E n o K L C := fun a w Kc Q hA hS hK => by
  obtain ⟨h, q1, q2⟩ := hS.read hr
  have hg : w.heap[g]? = some (.stringIter s pos) := q2 _ _ q1
  have hget : (getObj g).run P w = .ok (.stringIter s pos) w := by simp [getObj, Sem.run, hg]
  unfold Oper.wp execOp
  simp only [ho, hA.eval hx, Sem.run_bind]
  by_cases hp : pos < s.size
  · have hset : (setObj g (.stringIter s (pos + (Utf8.decode s pos).2))).run P w = .ok () { w with heap := w.heap.setIfInBounds g (.stringIter s (pos + (Utf8.decode s pos).2)) } := by simp [setObj, Sem.run, hg]
    have hrun : (Instr.next (.pointer (some ⟨g, 0, none⟩)) true o.type).run P w = .ok (.tuple #[.bool true, .int .i64 (pos : Int), .int .i32 ((Utf8.decode s pos).1 : Int)]) { w with heap := w.heap.setIfInBounds g (.stringIter s (pos + (Utf8.decode s pos).2)) } := by
      unfold Instr.next
      simp [hget, hp, hset, goInt]
    rw [hrun]
    refine hK _ _ _ (hmore hp) (hS.step hr fun h hp2 hin => ?_)
    have hlt := lt_of_heap hg
    refine ⟨[g], fun q => if q = g then some (.stringIter s (pos + (Utf8.decode s pos).2)) else none, ?_, ?_, by simp [iterP], fun q o ho => ?_, fun q hq => ?_⟩
    · intro k hk; simp at hk; subst hk; rw [show h k = _ from hp2]; rfl
    · refine ⟨rfl, rfl, rfl, by simp, fun k hk hm => ?_⟩
      have : g ≠ k := fun h => hm (by simp [h])
      simp [Array.getElem?_setIfInBounds, this]
    · by_cases hqg : q = g
      · subst hqg; simp at ho; subst ho; simp [Array.getElem?_setIfInBounds, hlt]
      · simp [hqg] at ho
    · by_cases hqg : q = g
      · subst hqg; left; rw [show h q = _ from hp2]; rfl
      · simp [hqg] at hq
  · have hrun : (Instr.next (.pointer (some ⟨g, 0, none⟩)) true o.type).run P w = .ok (.tuple #[.bool false]) w := by
      unfold Instr.next
      simp [hget, hp]
    rw [hrun]
    exact hK _ _ _ (hend (by omega)) hS
theorem OpT_range {r t : Nat} {s : ByteArray} {x : Operand} (ho : o.op = .range t x) (hu : P.underlying t = some .string) (hx : evK K x = some (.string s)) (k : ∀ g, C (.pointer (some ⟨g, 0, none⟩)) ((r, iterP g s 0) :: L)) : OpT P E n o K L C := fun a w Kc Q hA hS hK => by
  have hrun : (Instr.range t (.string s)).run P w = .ok (.pointer (some ⟨w.heap.size, 0, none⟩)) (w.alloc (.stringIter s 0)) := by
    unfold Instr.range
    simp [run_underlying hu]
  unfold Oper.wp execOp
  simp only [ho, hA.eval hx, Sem.run_bind, hrun, Result.andThen_ok, Sem.run_pure]
  refine hK _ _ _ (k _) (hS.new r ?_ (fun g => if g = w.heap.size then some (.stringIter s 0) else none) ?_ ?_ ?_)
  · exact ⟨rfl, rfl, rfl, by simp, fun k hk _ => heap_alloc_old w _ hk⟩
  · simp [iterP]
  · intro g o h
    by_cases hg : g = w.heap.size
    · subst hg
      simp at h
      subst h
      exact heap_alloc_new w _
    · simp [hg] at h
  · intro g hg
    by_cases hg' : g = w.heap.size
    · omega
    · simp [hg'] at hg
/-- Strings put together. -/
theorem run_addStr (a b : List UInt8) (t : TypeId) (x y : Operand) (h : (strB a).size + (strB b).size ≤ 9223372036854775807) (w : World) : ((do eqGuard .add t x y (.string (strB a)) (.string (strB b)); binOp .add t (.string (strB a)) (.string (strB b)) : Sem Value)).run P w = .ok (.string (strB a ++ strB b)) w := by
  have h' : ((strB a).size : Int) + ((strB b).size : Int) ≤ 9223372036854775807 := by omega
  simp [eqGuard, binOp, Op.stringOp, h']
end
end Go.Proofs.Ytjopgnkffhfhkaa
/- Rows put together: plain words. -/
namespace Go.Proofs.Ytjopgnkffhfhkaa
/-- The first k of these, one after another. -/
def cat {α : Type} (ls : List (List α)) (k : Nat) : List α := (ls.take k).flatten
theorem cat_zero {α : Type} (ls : List (List α)) : cat ls 0 = [] := by simp [cat]
theorem cat_succ {α : Type} {ls : List (List α)} {k : Nat} (h : k < ls.length) : cat ls (k + 1) = cat ls k ++ ls.getD k [] := by
  unfold cat
  rw [List.take_add_one, List.flatten_append]
  simp [List.getElem?_eq_getElem h]
theorem cat_all {α : Type} (ls : List (List α)) : cat ls ls.length = ls.flatten := by simp [cat]
theorem cat_le {α : Type} (ls : List (List α)) (k : Nat) : (cat ls k).length ≤ ls.flatten.length := by
  unfold cat
  conv => rhs; rw [← List.take_append_drop k ls]
  rw [List.flatten_append, List.length_append]
  omega
theorem getD_at {α : Type} {vs : List α} {k : Nat} {d : α} (h : k < vs.length) : vs[k]? = some (vs.getD k d) := by simp [List.getElem?_eq_getElem h]
end Go.Proofs.Ytjopgnkffhfhkaa
/- Symbolic states, part 13: strings. -/
namespace Go.Proofs.Ytjopgnkffhfhkaa
open Go.RowKit
set_option linter.unusedVariables false
set_option linter.unusedSimpArgs false
/-- A string's value. -/
abbrev sV (l : List UInt8) : Value := .string (strB l)
theorem strB_append (a b : List UInt8) : strB a ++ strB b = strB (a ++ b) := by
  apply ByteArray.ext
  simp [strB]
theorem strB_data (s : ByteArray) : s = strB s.data.toList := by
  apply ByteArray.ext
  simp [strB]
theorem strB_extract (l : List UInt8) (a b : Nat) : (strB l).extract a b = strB ((l.drop a).take (b - a)) := by
  apply ByteArray.ext
  simp [strB, ByteArray.data_extract, List.extract_eq_take_drop]
theorem strB_get (l : List UInt8) (k : Nat) (h : k < l.length) : (strB l)[k]? = some (at0 l k) := by
  have h' : k < (strB l).size := by rw [strB_size]; exact h
  rw [getElem?_pos (strB l) k h']
  simp only [strB, at0, Option.some.injEq]
  show l.toArray[k] = _
  simp [h]
  rfl
section
variable {P : Program} {E : Env} {n : Nat} {K : Slots} {L : Res} {o : Oper} {C : Value → Res → Prop}
theorem Pu_lenStr {t : TypeId} {x : Operand} {l : List UInt8} (ho : o.op = .call { callee := .builtin .len, args := #[x], argTypes := #[t] }) (hu : P.underlying t = some .string) (hx : evK K x = some (sV l)) : Pure P E n o K L (.int .i64 (l.length : Int)) := fun a w hA hS => by
  simp [execOp, ho, resolve, invoke, builtin, hA.eval hx, Builtin.len_, run_underlying hu, goInt, strB_size]
theorem Pu_idxStr {t : TypeId} {x y : Operand} {l : List UInt8} {kd : IntKind} {ix : Int} (ho : o.op = .index t x y) (hu : P.underlying t = some .string) (hx : evK K x = some (sV l)) (hy : evK K y = some (.int kd ix)) (hi : 0 ≤ ix ∧ ix < (l.length : Int)) : Pure P E n o K L (bv (at0 l ix.toNat)) := fun a w hA hS => by
  have h := strB_get l ix.toNat (by omega)
  simp [execOp, ho, hA.eval hx, hA.eval hy, Instr.index, asIntOf, run_underlying hu, hi.1, h, bv]
theorem run_sliceStr (w : World) {t : TypeId} {l : List UInt8} (hu : P.underlying t = some .string) {lo hi : Option Value} {a b : Nat}
    (hlo : (lo = none ∧ a = 0) ∨ ∃ k i, lo = some (.int k i) ∧ i = (a : Int)) (hhi : (hi = none ∧ b = l.length) ∨ ∃ k i, hi = some (.int k i) ∧ i = (b : Int)) (hab : a ≤ b) (hbc : b ≤ l.length) :
    (Instr.sliceAt t (sV l) lo hi none).run P w = .ok (sV ((l.drop a).take (b - a))) w := by
  have hb : (Instr.sliceBounds false (strB l).size (strB l).size lo hi none).run P w = .ok (a, b, (strB l).size) w := by
    have sb : ∀ (k : IntKind) (a y : Nat) (code : BoundsCode), a ≤ y → (Instr.sliceBound (.int k (a : Int)) y code).run P w = .ok a w := by
      intro k a y code h
      simp only [Instr.sliceBound, asIntOf, Sem.run_bind, Sem.run_pure, Result.andThen_ok]
      rw [if_pos (by omega)]
      simp
    unfold Instr.sliceBounds
    rw [strB_size]
    rcases hlo with ⟨rfl, rfl⟩ | ⟨k, i, rfl, rfl⟩ <;> rcases hhi with ⟨rfl, rfl⟩ | ⟨k', i', rfl, rfl⟩
    all_goals simp only [Sem.run_bind, Sem.run_pure, Result.andThen_ok, sb _ _ _ _ hbc, sb _ _ _ _ hab, if_true, Bool.false_eq_true, if_false, Option.isSome_none]
  unfold Instr.sliceAt
  simp only [Sem.run_bind, run_underlying hu, Result.andThen_ok]
  unfold Instr.slice
  simp only [Sem.run_bind, run_underlying hu, Result.andThen_ok, hb, Sem.run_pure, strB_extract, Option.isSome_none, Bool.false_eq_true, if_false]
theorem Pu_sliceStr {t : TypeId} {a b : Nat} {x : Operand} {lo hi : Option Operand} {l : List UInt8} (ho : o.op = .slice t x lo hi none) (hu : P.underlying t = some .string)
    (hx : evK K x = some (sV l))
    (hlo : (lo = none ∧ a = 0) ∨ ∃ y k i, lo = some y ∧ evK K y = some (.int k i) ∧ i = (a : Int)) (hhi : (hi = none ∧ b = l.length) ∨ ∃ y k i, hi = some y ∧ evK K y = some (.int k i) ∧ i = (b : Int)) (hab : a ≤ b) (hbm : b ≤ l.length) : Pure P E n o K L (sV ((l.drop a).take (b - a))) :=
  (fun ac w hA hS => by
    have := run_sliceStr (P := P) w hu (l := l) (lo := lo.map ac.eval) (hi := hi.map ac.eval) (a := a) (b := b)
      (by rcases hlo with ⟨rfl, rfl⟩ | ⟨y, k, i, rfl, hy, hi⟩
          · exact .inl ⟨rfl, rfl⟩
          · exact .inr ⟨k, i, by simp [hA.eval hy], hi⟩)
      (by rcases hhi with ⟨rfl, rfl⟩ | ⟨y, k, i, rfl, hy, hi⟩
          · exact .inl ⟨rfl, rfl⟩
          · exact .inr ⟨k, i, by simp [hA.eval hy], hi⟩) hab hbm
    simp only [execOp, ho, hA.eval hx, Option.map_none, Sem.run_bind, this]; rfl)
theorem Pu_sliceStrE {t : TypeId} {a b : Nat} {x : Operand} {lo hi : Option Operand} {l l' : List UInt8} (ho : o.op = .slice t x lo hi none) (hu : P.underlying t = some .string)
    (hx : evK K x = some (sV l))
    (hlo : (lo = none ∧ a = 0) ∨ ∃ y k i, lo = some y ∧ evK K y = some (.int k i) ∧ i = (a : Int)) (hhi : (hi = none ∧ b = l.length) ∨ ∃ y k i, hi = some y ∧ evK K y = some (.int k i) ∧ i = (b : Int)) (hab : a ≤ b) (hbm : b ≤ l.length) (hl : (l.drop a).take (b - a) = l') : Pure P E n o K L (sV l') := by
  subst hl
  exact Pu_sliceStr ho hu hx hlo hhi hab hbm
theorem take_rest (l : List UInt8) (a : Nat) : (l.drop a).take (l.length - a) = l.drop a := List.take_of_length_le (by simp)
theorem take_front (l : List UInt8) (b : Nat) : (l.drop 0).take (b - 0) = l.take b := by simp
theorem run_addL (a b : List UInt8) (t : TypeId) (x y : Operand) (h : a.length + b.length ≤ 9223372036854775807) (w : World) : ((do eqGuard .add t x y (sV a) (sV b); binOp .add t (sV a) (sV b) : Sem Value)).run P w = .ok (sV (a ++ b)) w := by
  have := run_addStr (P := P) a b t x y (by rw [strB_size, strB_size]; exact h) w
  rw [strB_append] at this
  exact this
theorem run_lssStr (a b : List UInt8) (t : TypeId) (x y : Operand) (w : World) : ((do eqGuard .lss t x y (sV a) (sV b); binOp .lss t (sV a) (sV b) : Sem Value)).run P w = .ok (.bool (Op.bytesLess a b)) w := by
  simp [eqGuard, binOp, Op.stringOp, strB_toList]
/-- The next rune of a string, whatever it is. -/
def nextV (s : ByteArray) (pos : Nat) : Value := if pos < s.size then .tuple #[.bool true, .int .i64 (pos : Int), .int .i32 ((Utf8.decode s pos).1 : Int)] else .tuple #[.bool false]
theorem OpT_nextM {r g pos : Nat} {s : ByteArray} {x : Operand} (ho : o.op = .next x true) (hx : evK K x = some (.pointer (some ⟨g, 0, none⟩))) (hr : look L r = some (iterP g s pos)) (hmore : pos < s.size)
    (k : C (.tuple #[.bool true, .int .i64 (pos : Int), .int .i32 ((Utf8.decode s pos).1 : Int)]) ((r, iterP g s (pos + (Utf8.decode s pos).2)) :: L)) : OpT P E n o K L C :=
  OpT_next ho hx hr (fun _ => k) (fun h => by omega)
theorem OpT_nextE {r g pos : Nat} {s : ByteArray} {x : Operand} (ho : o.op = .next x true) (hx : evK K x = some (.pointer (some ⟨g, 0, none⟩))) (hr : look L r = some (iterP g s pos)) (hend : s.size ≤ pos)
    (k : C (.tuple #[.bool false]) L) : OpT P E n o K L C :=
  OpT_next ho hx hr (fun h => by omega) (fun _ => k)
theorem decode_at (l : List UInt8) (i : Nat) : Utf8.decode (strB l) i = Lib.decodeL (l.drop i) := by
  rw [← Lib.decodeL_drop]
  simp [strB]
theorem OpT_nextL {r g pos : Nat} {l : List UInt8} {x : Operand} (ho : o.op = .next x true) (hx : evK K x = some (.pointer (some ⟨g, 0, none⟩))) (hr : look L r = some (iterP g (strB l) pos)) (hmore : pos < l.length)
    (k : C (.tuple #[.bool true, .int .i64 (pos : Int), .int .i32 ((Lib.decodeL (l.drop pos)).1 : Int)]) ((r, iterP g (strB l) (pos + (Lib.decodeL (l.drop pos)).2)) :: L)) : OpT P E n o K L C :=
  OpT_nextM ho hx hr (by rw [strB_size]; exact hmore) (by rw [decode_at]; exact k)
theorem OpT_nextLE {r g pos : Nat} {l : List UInt8} {x : Operand} (ho : o.op = .next x true) (hx : evK K x = some (.pointer (some ⟨g, 0, none⟩))) (hr : look L r = some (iterP g (strB l) pos)) (hend : l.length ≤ pos)
    (k : C (.tuple #[.bool false]) L) : OpT P E n o K L C := OpT_nextE ho hx hr (by rw [strB_size]; exact hend) k
end
/-- A row of strings. -/
def ss (ls : List (List UInt8)) : List Value := ls.map sV
theorem ss_length (ls : List (List UInt8)) : (ss ls).length = ls.length := by simp [ss]
theorem ss_append (a b : List (List UInt8)) : ss (a ++ b) = ss a ++ ss b := by simp [ss]
theorem ss_at {ls : List (List UInt8)} {k : Nat} (h : k < ls.length) : (ss ls)[k]? = some (sV (ls.getD k [])) := by simp [ss, h]
theorem ss_one (ls : List (List UInt8)) : ∀ u ∈ ss ls, u.oneCell' = true := by
  intro u hu
  simp only [ss, List.mem_map] at hu
  obtain ⟨x, _, rfl⟩ := hu
  rfl
theorem ss_cells (ls : List (List UInt8)) : ∀ u ∈ ss ls, u.cells = #[u] := by
  intro u hu
  simp only [ss, List.mem_map] at hu
  obtain ⟨x, _, rfl⟩ := hu
  rfl
/-- Strings that can be read; a row of strings. -/
abbrev rdS (v : Value) (ls : List (List UInt8)) : HP := rdP 1 v ls.length (ss ls)
def rowS (e : TypeId) (v : Value) (ls : List (List UInt8)) : HP := rowP e 1 v ls.length (ss ls)
theorem rowS_rd {e : TypeId} {v : Value} {ls : List (List UInt8)} : ∀ h, rowS e v ls h → rdS v ls h := fun h hr => rowP_rd hr
theorem rowS_of {e : TypeId} {v : Value} {n : Nat} {xs : List Value} (ls : List (List UInt8)) (hn : n = ls.length) (hx : xs = ss ls) : rowP e 1 v n xs = rowS e v ls := by subst hn; subst hx; rfl
end Go.Proofs.Ytjopgnkffhfhkaa
/- Rows of structs: each so many cells. -/
namespace Go.Proofs.Ytjopgnkffhfhkaa
open Go.RowKit
set_option linter.unusedVariables false
set_option linter.unusedSimpArgs false
def recC {α : Type} (f : α → List Value) (es : List α) : List Value := (es.map f).flatten
section
variable {α : Type} {f : α → List Value} {S : Nat} {es : List α} {d : α}
theorem recC_append (a b : List α) : recC f (a ++ b) = recC f a ++ recC f b := by simp [recC]
theorem recC_one (x : α) : recC f [x] = f x := by simp [recC]
theorem recC_nil : recC f [] = [] := rfl
theorem recC_length (h : ∀ e ∈ es, (f e).length = S) : (recC f es).length = es.length * S := by
  induction es with
  | nil => simp [recC]
  | cons e es ih =>
    have h1 := ih fun x hx => h x (by simp [hx])
    have h2 := h e (by simp)
    simp only [recC, List.map_cons, List.flatten_cons, List.length_append, List.length_cons] at h1 ⊢
    rw [h1, h2, Nat.add_mul]
    omega
theorem getD_split {k : Nat} (hk : k < es.length) : es = es.take k ++ ([es.getD k d] ++ es.drop (k + 1)) := by
  rw [show es.getD k d = es[k] by simp [hk], List.singleton_append, ← List.drop_eq_getElem_cons hk, List.take_append_drop]
theorem getD_mem' {k : Nat} (hk : k < es.length) : es.getD k d ∈ es := by rw [show es.getD k d = es[k] by simp [hk]]; exact List.getElem_mem hk
theorem recC_at (h : ∀ e ∈ es, (f e).length = S) {k j : Nat} (hk : k < es.length) (hj : j < S) : (recC f es)[k * S + j]? = (f (es.getD k d))[j]? := by
  have hx := h _ (getD_mem' (d := d) hk)
  have hl : (recC f (es.take k)).length = k * S := by
    rw [recC_length fun e he => h e (List.mem_of_mem_take he), List.length_take, Nat.min_eq_left (by omega)]
  conv => lhs; rw [getD_split (d := d) hk]
  rw [recC_append, recC_append, recC_one, List.getElem?_append_right (by omega), hl, Nat.add_sub_cancel_left, List.getElem?_append_left (by omega)]
theorem recC_get (h : ∀ e ∈ es, (f e).length = S) {k : Nat} (hk : k < es.length) : ((recC f es).drop (k * S)).take S = f (es.getD k d) := by
  have hx := h _ (getD_mem' (d := d) hk)
  apply List.ext_getElem?
  intro j
  rw [List.getElem?_take]
  split
  · rename_i hj; rw [List.getElem?_drop, recC_at (d := d) h hk hj]
  · rename_i hj; rw [List.getElem?_eq_none (by omega)]
theorem recC_rd (h : ∀ e ∈ es, (f e).length = S) {v : Value} {n k off m : Nat} {hh : Hlt} {xs : List Value} (hr : rdP S v n (recC f es) hh) (hn : n = es.length) (hk : k < es.length) (hm : off + m ≤ S) (hx : ((f (es.getD k d)).drop off).take m = xs) :
    rdP 1 (.slice (some ((adrOf v).add (k * S + off))) m m) m xs hh := by
  have hfl := h _ (getD_mem' (d := d) hk)
  obtain ⟨h1, A, c, rfl, h3, h4, h5⟩ := hr
  refine ⟨by rw [← hx, List.length_take, List.length_drop]; omega, _, m, rfl, Nat.le_refl _, fun h => (by cases h), fun ad had j u hu => ?_⟩
  injection had with had
  subst had
  cases A with
  | none => have := h4 rfl; omega
  | some ad =>
    rw [← hx, List.getElem?_take] at hu
    split at hu
    · rename_i hj
      rw [List.getElem?_drop] at hu
      have := h5 ad rfl (k * S + (off + j)) u (by rw [recC_at (d := d) h hk (by omega)]; exact hu)
      rw [add_of_add, Nat.add_assoc]
      exact this
    · cases hu
theorem recC_set (h : ∀ e ∈ es, (f e).length = S) {k : Nat} (hk : k < es.length) {x : α} (hx : (f x).length = S) : over (recC f es) (k * S) (f x) = recC f (es.set k x) := by
  have hl : (recC f (es.take k)).length = k * S := by
    rw [recC_length fun e he => h e (List.mem_of_mem_take he), List.length_take, Nat.min_eq_left (by omega)]
  have hf := h _ (getD_mem' (d := x) hk)
  have e2 : es.set k x = es.take k ++ ([x] ++ es.drop (k + 1)) := by rw [List.set_eq_take_append_cons_drop, if_pos hk]; rfl
  rw [e2, recC_append, recC_append, recC_one]
  conv => lhs; rw [getD_split (d := x) hk]
  rw [recC_append, recC_append, recC_one, ← hl]
  exact over_mid _ _ _ _ (by rw [hf, hx])
theorem over_in (a b c u : List Value) (off : Nat) (h : off + u.length ≤ b.length) : over (a ++ (b ++ c)) (a.length + off) u = a ++ (over b off u ++ c) := by
  unfold over
  rw [List.take_append, List.take_of_length_le (by omega), show a.length + off - a.length = off by omega, List.take_append_of_le_length (by omega)]
  rw [List.drop_append, List.drop_of_length_le (show a.length ≤ a.length + off + u.length by omega), List.nil_append, show a.length + off + u.length - a.length = off + u.length by omega]
  rw [List.drop_append_of_le_length h]
  simp [List.append_assoc]
/-- A field's cells turned. -/
theorem recC_setF (h : ∀ e ∈ es, (f e).length = S) {k off : Nat} (hk : k < es.length) {x : α} {us : List Value} (hu : off + us.length ≤ S) (hx : over (f (es.getD k d)) off us = f x) : over (recC f es) (k * S + off) us = recC f (es.set k x) := by
  have hl : (recC f (es.take k)).length = k * S := by
    rw [recC_length fun e he => h e (List.mem_of_mem_take he), List.length_take, Nat.min_eq_left (by omega)]
  have hf := h _ (getD_mem' (d := d) hk)
  have e2 : es.set k x = es.take k ++ ([x] ++ es.drop (k + 1)) := by rw [List.set_eq_take_append_cons_drop, if_pos hk]; rfl
  rw [e2, recC_append, recC_append, recC_one]
  conv => lhs; rw [getD_split (d := d) hk]
  rw [recC_append, recC_append, recC_one, ← hl, over_in _ _ _ _ _ (by omega), hx]
theorem recC_ones (h : ∀ e, ∀ u ∈ f e, u.oneCell' = true) : ∀ u ∈ recC f es, u.oneCell' = true := by
  intro u hu
  simp only [recC, List.mem_flatten, List.mem_map] at hu
  obtain ⟨xs, ⟨e, _, rfl⟩, hu⟩ := hu
  exact h e u hu
end
/-- A row of structs. -/
def rowR {α : Type} (f : α → List Value) (S : Nat) (e : TypeId) (v : Value) (es : List α) : HP := rowP e S v es.length (recC f es)
abbrev rdR {α : Type} (f : α → List Value) (S : Nat) (v : Value) (es : List α) : HP := rdP S v es.length (recC f es)
theorem rowR_rd {α : Type} {f : α → List Value} {S : Nat} {e : TypeId} {v : Value} {es : List α} : ∀ h, rowR f S e v es h → rdR f S v es h := fun h hr => rowP_rd hr
theorem rowR_of {α : Type} {f : α → List Value} {S : Nat} {e : TypeId} {v : Value} {n : Nat} {xs : List Value} (es : List α) (hn : n = es.length) (hx : xs = recC f es) : rowP e S v n xs = rowR f S e v es := by subst hn; subst hx; rfl
section
variable {P : Program} {E : Env} {n : Nat} {K : Slots} {L : Res} {o : Oper} {C : Value → Res → Prop}
/-- A whole struct stored into a row. -/
theorem OpT_storeRec {α : Type} {t r e m S : Nat} {x y : Operand} {v : Value} {es : List α} (f : α → List Value) (k : Nat) (z : α) (ho : o.op = .store t x y) (hs : ∀ w, (sizeOf t).run P w = .ok S w) (hx : evK K x = some (.pointer (some ((adrOf v).add (k * S))))) (hy : evK K y = some (.agg (f z).toArray)) (hr : look L r = some (rowP e S v m (recC f es)))
    (hE : ∀ e ∈ es, (f e).length = S) (hk : k < es.length) (hz : (f z).length = S) (hS : 0 < S) (h1 : ∀ u ∈ f z, u.oneCell' = true) (q : C undef ((r, rowP e S v m (recC f (es.set k z))) :: L)) : OpT P E n o K L C :=
  OpT_storeS (u := .agg (f z).toArray) ho (by simp [Value.cells, hz]; exact hs) hx hy hr (by simp [Value.cells, hz]; exact hS)
    (by simp only [Value.cells, List.size_toArray]; rw [recC_length hE, hz]; have := Nat.mul_le_mul_right S (show k + 1 ≤ es.length by omega); rw [Nat.add_mul, Nat.one_mul] at this; exact this)
    (by simpa [Value.cells] using h1) (by simp only [Value.cells, List.toList_toArray]; exact recC_set hE hk hz) q
end
end Go.Proofs.Ytjopgnkffhfhkaa
/- slices.SortFunc off the shelf, for rows of structs as resources. -/
namespace Go.Proofs.Ytjopgnkffhfhkaa
open Go.RowKit Go.Shelf Go.Lib Go.Sort
set_option linter.unusedVariables false
set_option linter.unusedSimpArgs false
section
variable {α : Type} [Inhabited α] {enc : α → List Value} {k : Nat}
theorem flat_rec (hk : ∀ x, (enc x).length = k) (xs : List α) (j : Nat) (hj : j < xs.length * k) : (recC enc xs)[j]? = some ((flatK enc k xs.toArray)[j]!) := by
  have k0 : 0 < k := by rcases Nat.eq_zero_or_pos k with h | h; · subst h; simp at hj
                        · exact h
  have hq : j / k < xs.length := by rw [Nat.div_lt_iff_lt_mul k0]; exact hj
  have hr : j % k < k := Nat.mod_lt _ k0
  have h := recC_at (f := enc) (S := k) (es := xs) (d := default) (fun e _ => hk e) hq hr
  rw [show j / k * k + j % k = j by rw [Nat.mul_comm]; exact Nat.div_add_mod j k] at h
  rw [h, get_flatK _ _ _ _ (by simpa using hj)]
  have e1 : xs.getD (j / k) default = xs.toArray[j / k]! := by simp [hq]
  rw [e1, List.getElem?_eq_getElem (by rw [hk]; exact hr)]
  rw [getElem!_pos (enc xs.toArray[j / k]!) (j % k) (by rw [hk]; exact hr)]
theorem sort_put {E : Env} {L : Res} {w : World} {r g m : Nat} {e : TypeId} {cap : Nat} {xs ys : List α} {os : Array Obj} (hk : ∀ x, (enc x).length = k) (hS : Sat E L w) (hr : look L r = some (rowP e k (.slice (some ⟨g, 0, none⟩) xs.length cap) xs.length (recC enc xs))) (hl : ys.length = xs.length) :
    Sat E ((r, rowP e k (.slice (some ⟨g, 0, none⟩) xs.length cap) ys.length (recC enc ys)) :: L) (sortWorldK enc k w g 0 m ys.toArray os) :=
  hS.step hr fun h hp hin => by
    obtain ⟨h1, h2⟩ := hp
    rcases h2 with ⟨h2, _⟩ | ⟨g', cap', cur, hv, hg, hn, hcap, hcs, htk⟩
    · cases h2
    · injection hv with hv1 hv2 hv3
      injection hv1 with hv1
      injection hv1 with hv1 _ _
      subst hv1; subst hv3
      have hw := hin _ _ hg
      have hlt := lt_of_heap hw
      have hnk : xs.length * k ≤ cur.size := by rw [hcs]; exact Nat.mul_le_mul_right k hn
      have hw' : (sortWorldK enc k w g 0 m ys.toArray os).heap[g]? = some (.cells (putCells id 0 (flatK enc k ys.toArray) cur) e (0, 0)) := by
        unfold sortWorldK grow putRowK putRow mapBlock Sort.ahead
        simp only
        rw [Array.getElem?_append_left (by rw [Array.size_modify]; exact hlt), Array.getElem?_modify, if_pos rfl, hw]
        rfl
      refine ⟨[g], single g (.cells (putCells id 0 (flatK enc k ys.toArray) cur) e (0, 0)), by simp [hg], ⟨rfl, rfl, rfl, ?_, fun q hq hm => ?_⟩, ⟨?_, .inr ⟨g, cap, putCells id 0 (flatK enc k ys.toArray) cur, by rw [hl], single_same _ _, by omega, hcap, by simp [putCells, hcs], ?_⟩⟩, single_in hw', fun q hq => .inl (by rw [single_dom hq, hg]; rfl)⟩
      · unfold sortWorldK grow putRowK putRow mapBlock Sort.ahead
        simp
      · unfold sortWorldK grow putRowK putRow mapBlock Sort.ahead
        simp only
        rw [Array.getElem?_append_left (by rw [Array.size_modify]; exact hq), Array.getElem?_modify, if_neg (fun h => hm (by simp [h]))]
      · exact recC_length fun e _ => hk e
      · apply List.ext_getElem?
        intro j
        rw [List.getElem?_take]
        split
        · rename_i hj
          rw [flat_rec hk ys j hj, Array.getElem?_toList]
          unfold putCells
          rw [Array.getElem?_mapIdx, Array.getElem?_eq_getElem (show j < cur.size by rw [hl] at hj; omega), Option.map_some, if_pos ⟨Nat.zero_le _, by simpa using hj⟩]
          rfl
        · rename_i hj
          rw [List.getElem?_eq_none (by rw [recC_length fun e _ => hk e]; omega)]
theorem sortFunc_S {P : Program} {ρ : Ren} (L : SlLaysF0.n6 P ρ) {e : TypeId} (aE : ∀ w, (isAgg (ρ.t 24)).run P w = .ok true w) (zE : ∀ w, (Go.sizeOf (ρ.t 24)).run P w = .ok k w) (hk : ∀ x, (enc x).length = k) (h1 : ∀ x, ∀ v ∈ enc x, v.oneCell' = true) (cf : α → α → Int) (hO : SWO (ltOf cf)) (g : Nat) (cb : Array Value)
    (eg : ∀ args w, (callFunc g args).run P w = .ok (.enter g args) w) (hcmp : ∀ blk off size w, CmpLays P g cb enc k cf blk off size w) (v : Value) (xs : List α) (hlen : xs.length < 4611686018427387904) (F : HP) :
    CallsS P (ρ.f 6) #[v, .func (.func g) #[] cb] F [rowP e k v xs.length (recC enc xs)] (fun r Ps => r = .tuple #[] ∧ ∃ ys, ys.Perm xs ∧ ys.Pairwise (fun a b => ltOf cf b a = false) ∧ Ps = [rowP e k v ys.length (recC enc ys)]) := by
  intro E w hS
  obtain ⟨h, q1, q2⟩ := hS.read (r := 1) rfl
  obtain ⟨h2, h3⟩ := q1
  rcases h3 with ⟨rfl, h4⟩ | ⟨gb, cap, cur, rfl, hg, hn, hcap, hcs, htk⟩
  · have hx : xs = [] := List.length_eq_zero_iff.1 h4
    subst hx
    refine (AnyF.slices_SortFunc_none L none 0 _ w).mono ?_
    rintro e' w' ⟨rfl, rfl⟩
    exact ⟨_, _, rfl, ⟨rfl, [], List.Perm.refl _, List.Pairwise.nil, rfl⟩, hS⟩
  · have hw := q2 _ _ hg
    have hnk : xs.length * k ≤ cur.size := by rw [hcs]; exact Nat.mul_le_mul_right k hn
    have hH : HoldsK enc k w gb 0 xs.toArray := by
      intro j hj
      have hj' : j < xs.length * k := by simpa using hj
      refine ⟨?_, by simp [World.frozen?, hw]⟩
      have hx := flat_rec hk xs j hj'
      rw [← htk, List.getElem?_take, if_pos hj', Array.getElem?_toList] at hx
      simp only [World.cell?, hw, Nat.zero_add, Option.isSome_none, Bool.false_eq_true, if_false]
      exact hx
    have := AnyQ.slices_SortFunc L k aE zE enc hk h1 cf hO g cb gb 0 cap xs.toArray w eg (hcmp _ _ _ _) hH (lt_of_heap hw) (by simpa using hlen)
    rw [show xs.toArray.size = xs.length by simp] at this
    refine this.mono ?_
    rintro e' w' ⟨rfl, d', m, os, hp, hs, rfl⟩
    have hd : d'.size = xs.length := by have := hp.1; simpa using this
    refine ⟨_, _, rfl, ⟨rfl, d'.toList, ?_, ?_, rfl⟩, ?_⟩
    · have := hp.2.2
      rw [show d'.extract 0 xs.length = d' by rw [← hd]; simp, show xs.toArray.extract 0 xs.length = xs.toArray by simp] at this
      simpa using this
    · rw [List.pairwise_iff_getElem]
      intro i j hi hj hij
      have := hs i j (Nat.zero_le _) hij (by simpa [hd] using hj)
      rw [getElem!_pos d' i (by simpa using hi), getElem!_pos d' j (by simpa using hj)] at this
      simpa using this
    · have := (sort_put (m := m) (os := os) hk hS (r := 1) rfl (ys := d'.toList) (by simpa using hd)).pick (ids := [0, 1]) (Ps := [F, rowP e k (.slice (some ⟨gb, 0, none⟩) xs.length cap) d'.toList.length (recC enc d'.toList)]) ⟨rfl, rfl, trivial⟩ (by decide)
      simpa using this
end
end Go.Proofs.Ytjopgnkffhfhkaa
/- Keys in their order. -/
namespace Go.Proofs.Ytjopgnkffhfhkaa
open Go.RowKit
set_option linter.unusedVariables false
set_option linter.unusedSimpArgs false
def ltK : List UInt8 → List UInt8 → Bool
  | [], [] => false
  | [], _ :: _ => true
  | _ :: _, [] => false
  | x :: a, y :: b => decide (x < y) || (decide (x = y) && ltK a b)
theorem u8_lt_irrefl (x : UInt8) : ¬ x < x := by rw [UInt8.lt_iff_toNat_lt]; omega
theorem ltK_irrefl : ∀ a, ltK a a = false
  | [] => rfl
  | x :: a => by simp [ltK, ltK_irrefl a, u8_lt_irrefl]
theorem ltK_trans : ∀ a b c, ltK a b = true → ltK b c = true → ltK a c = true
  | [], [], c, h, _ => by simp [ltK] at h
  | [], y :: b, [], _, h => by simp [ltK] at h
  | [], y :: b, z :: c, _, _ => rfl
  | x :: a, [], c, h, _ => by simp [ltK] at h
  | x :: a, y :: b, [], _, h => by simp [ltK] at h
  | x :: a, y :: b, z :: c, h1, h2 => by
    simp only [ltK, Bool.or_eq_true, Bool.and_eq_true, decide_eq_true_eq, UInt8.lt_iff_toNat_lt, ← UInt8.toNat_inj] at h1 h2 ⊢
    rcases h1 with h1 | ⟨h1, h1'⟩ <;> rcases h2 with h2 | ⟨h2, h2'⟩
    · left; omega
    · left; omega
    · left; omega
    · right; exact ⟨by omega, ltK_trans a b c h1' h2'⟩
theorem ltK_tri : ∀ a b, a.length = b.length → ltK a b = false → ltK b a = false → a = b
  | [], [], _, _, _ => rfl
  | [], _ :: _, h, _, _ => by simp at h
  | _ :: _, [], h, _, _ => by simp at h
  | x :: a, y :: b, h, h1, h2 => by
    simp only [ltK, Bool.or_eq_false_iff, Bool.and_eq_false_iff, decide_eq_false_iff_not, UInt8.lt_iff_toNat_lt, ← UInt8.toNat_inj] at h1 h2
    have hxy : x = y := UInt8.toNat_inj.1 (by omega)
    subst hxy
    rw [ltK_tri a b (by simpa using h) (by simpa using h1.2) (by simpa using h2.2)]
theorem ltK_ntrans (a b c : List UInt8) (h1 : a.length = b.length) (h2 : b.length = c.length) (hab : ltK a b = false) (hbc : ltK b c = false) : ltK a c = false := by
  cases h : ltK a c with
  | false => rfl
  | true =>
    exfalso
    cases hba : ltK b a with
    | false => rw [ltK_tri a b h1 hab hba] at h; rw [h] at hbc; cases hbc
    | true =>
      cases hcb : ltK c b with
      | false =>
        rw [← ltK_tri b c h2 hbc hcb] at h
        rw [h] at hab; cases hab
      | true =>
        have := ltK_trans a c b h hcb
        rw [this] at hab; cases hab
theorem ltK_at : ∀ (p : List UInt8) (x y : UInt8) (a b : List UInt8), x ≠ y → ltK (p ++ x :: a) (p ++ y :: b) = decide (x < y)
  | [], x, y, a, b, h => by simp [ltK, h]
  | z :: p, x, y, a, b, h => by simp [ltK, u8_lt_irrefl, ltK_at p x y a b h]
theorem split_at (a b : List UInt8) (i : Nat) (ha : i < a.length) (hb : i < b.length) (h : ∀ j, j < i → a[j]? = b[j]?) : a.take i = b.take i := by
  apply List.ext_getElem?
  intro j
  rw [List.getElem?_take, List.getElem?_take]
  split
  · rename_i hj; exact h j hj
  · rfl
theorem ba_get (l : List UInt8) (i : Nat) (h : i < l.length) : (⟨l.toArray⟩ : ByteArray)[i]! = l[i] := by
  rw [getElem!_pos (⟨l.toArray⟩ : ByteArray) i (by show i < l.toArray.size; simpa using h)]
  rfl
theorem cmp_lt (a b : List UInt8) (h : a.length = b.length) : decide (Extern.BytealgCompare.cmp ⟨a.toArray⟩ ⟨b.toArray⟩ < 0) = ltK a b := by
  unfold Extern.BytealgCompare.cmp
  rw [show (⟨a.toArray⟩ : ByteArray).size = a.length by show a.toArray.size = _; simp, show (⟨b.toArray⟩ : ByteArray).size = b.length by show b.toArray.size = _; simp, h, Nat.min_self]
  cases hf : (List.range b.length).find? fun i => (⟨a.toArray⟩ : ByteArray)[i]! != (⟨b.toArray⟩ : ByteArray)[i]! with
  | none =>
    rw [List.find?_eq_none] at hf
    have : a = b := by
      apply List.ext_getElem h
      intro i h1 h2
      have := hf i (List.mem_range.2 h2)
      rw [ba_get a i h1, ba_get b i h2] at this
      simpa using this
    subst this
    simp [ltK_irrefl]
  | some i =>
    have hi : i < b.length := List.mem_range.1 (List.mem_of_find?_eq_some hf)
    have hne := List.find?_some hf
    have hbef : ∀ j, j < i → a[j]? = b[j]? := by
      intro j hj
      rw [List.find?_range_eq_some] at hf
      have := hf.2.2 j hj
      rw [ba_get a j (by omega), ba_get b j (by omega)] at this
      rw [List.getElem?_eq_getElem (by omega), List.getElem?_eq_getElem (by omega)]
      simpa using this
    rw [ba_get a i (by omega), ba_get b i hi] at hne
    have hne : a[i] ≠ b[i] := by simpa using hne
    have ea : a = a.take i ++ a[i] :: a.drop (i + 1) := by rw [← List.drop_eq_getElem_cons, List.take_append_drop]
    have eb : b = a.take i ++ b[i] :: b.drop (i + 1) := by rw [split_at a b i (by omega) hi hbef, ← List.drop_eq_getElem_cons, List.take_append_drop]
    have hk : ltK a b = decide (a[i] < b[i]) := (congr (congrArg ltK ea) eb).trans (ltK_at _ _ _ _ _ hne)
    rw [hk]
    simp only [ba_get a i (by omega), ba_get b i hi]
    by_cases hlt : a[i] < b[i] <;> simp [hlt]
theorem run_loadL {P : Program} (w : World) : ∀ (l : List UInt8) (a : Addr) (acc : ByteArray), (∀ j x, l[j]? = some x → w.cell? (a.add j) = some (bv x)) → (Extern.Bytes.loadBytes a l.length acc).run P w = .ok ⟨acc.data ++ l.toArray⟩ w
  | [], a, acc, _ => by simp [Extern.Bytes.loadBytes]
  | x :: l, a, acc, h => by
    have h0 : w.cell? a = some (.int .u8 (x.toNat : Int)) := by
      have := h 0 x rfl
      simpa [Addr.add, bv] using this
    have ih := run_loadL (P := P) w l (a.add 1) (acc.push x) (fun j y hy => by
      have := h (j + 1) y (by simpa using hy)
      rw [add_of_add, Nat.add_comm 1 j]
      exact this)
    simp only [List.length_cons, Extern.Bytes.loadBytes, Sem.run_bind, run_load, h0, Result.andThen]
    have e : ((x.toNat : Int).toNat.toUInt8) = x := by simp
    rw [e, ih]
    congr 1
    apply ByteArray.ext
    simp [ByteArray.push]
end Go.Proofs.Ytjopgnkffhfhkaa
/- Blocks in memory: a key, bytes, a source, an end. -/
namespace Go.Proofs.Ytjopgnkffhfhkaa
open Go.RowKit
set_option linter.unusedVariables false
set_option linter.unusedSimpArgs false
def bkC (k : List UInt8) (v : Value) (s e : Int) : List Value := bs k ++ [v, .int .i64 s, .int .i64 e]
/-- A block as it stands in a map or a row: its key, its slice, its source, its end. -/
abbrev BV := { m : List UInt8 × Value × Int × Int // m.1.length = 32 ∧ m.2.1.oneCell' = true }
def BV.key (x : BV) : List UInt8 := x.1.1
def BV.sl (x : BV) : Value := x.1.2.1
def BV.src (x : BV) : Int := x.1.2.2.1
def BV.exp (x : BV) : Int := x.1.2.2.2
instance : Inhabited BV := ⟨⟨(zeroId, .slice none 0 0, 0, 0), by decide, rfl⟩⟩
def bvC (x : BV) : List Value := bkC x.key x.sl x.src x.exp
theorem BV.len (x : BV) : x.key.length = 32 := x.2.1
theorem BV.one (x : BV) : x.sl.oneCell' = true := x.2.2
theorem bkC_length {k : List UInt8} {v : Value} {s e : Int} (h : k.length = 32) : (bkC k v s e).length = 35 := by simp [bkC, bs_length, h]
theorem bvC_length (x : BV) : (bvC x).length = 35 := bkC_length x.len
theorem bkC_one {k : List UInt8} {v : Value} {s e : Int} (h : v.oneCell' = true) : ∀ u ∈ bkC k v s e, u.oneCell' = true := by
  intro u hu
  rcases List.mem_append.1 hu with hu | hu
  · exact bs_one k u hu
  · simp at hu
    rcases hu with rfl | rfl | rfl
    · exact h
    · rfl
    · rfl
theorem bvC_one : ∀ x : BV, ∀ u ∈ bvC x, u.oneCell' = true := fun x => bkC_one x.one
section
variable {k : List UInt8} {v : Value} {s e : Int} (h : k.length = 32)
include h
theorem bk_data : (bkC k v s e)[32]? = some v := by
  unfold bkC; rw [List.getElem?_append_right (by rw [bs_length]; omega), bs_length, h]; rfl
theorem bk_src : (bkC k v s e)[33]? = some (.int .i64 s) := by
  unfold bkC; rw [List.getElem?_append_right (by rw [bs_length]; omega), bs_length, h]; rfl
theorem bk_exp : (bkC k v s e)[34]? = some (.int .i64 e) := by
  unfold bkC; rw [List.getElem?_append_right (by rw [bs_length]; omega), bs_length, h]; rfl
theorem bk_key : ((bkC k v s e).drop 0).take 32 = bs k := by
  unfold bkC; rw [List.drop_zero, List.take_append_of_le_length (by rw [bs_length]; omega)]
  exact List.take_of_length_le (by rw [bs_length]; omega)
theorem bk_set_exp (e' : Int) : (bkC k v s e).set 34 (.int .i64 e') = bkC k v s e' := by
  unfold bkC; rw [List.set_append_right _ _ (by rw [bs_length]; omega), bs_length, h]; rfl
theorem bk_set_data (v' : Value) : (bkC k v s e).set 32 v' = bkC k v' s e := by
  unfold bkC; rw [List.set_append_right _ _ (by rw [bs_length]; omega), bs_length, h]; rfl
end
end Go.Proofs.Ytjopgnkffhfhkaa
/- Areas: blocks sorted by their keys. -/
namespace Go.Proofs.Ytjopgnkffhfhkaa
open Go.RowKit Go.Shelf Go.Lib Go.Sort
set_option linter.unusedVariables false
set_option linter.unusedSimpArgs false
def cfB (x y : BV) : Int := Extern.BytealgCompare.cmp ⟨x.key.toArray⟩ ⟨y.key.toArray⟩
theorem lt_cfB (x y : BV) : ltOf cfB x y = ltK x.key y.key := cmp_lt _ _ (x.len.trans y.len.symm)
theorem swoB : SWO (ltOf cfB) where
  irrefl x := by rw [lt_cfB, ltK_irrefl]
  trans x y z h1 h2 := by rw [lt_cfB] at *; exact ltK_trans _ _ _ h1 h2
  ntrans x y z h1 h2 := by rw [lt_cfB] at *; exact ltK_ntrans _ _ _ (x.len.trans y.len.symm) (y.len.trans z.len.symm) h1 h2
theorem key_bytes (x : BV) (b : Nat) (e : TypeId) (W : World) (h : W.heap[b]? = some (.cells (bvC x).toArray e (0, 0))) : (Extern.Bytes.bytesOf (.slice (some ⟨b, 0, none⟩) 32 32)).run Try.prog W = .ok ⟨x.key.toArray⟩ W := by
  have := run_loadL (P := Try.prog) W x.key ⟨b, 0, none⟩ .empty (fun j u hj => by
    have hjl : j < x.key.length := (List.getElem?_eq_some_iff.1 hj).1
    rw [addr_add0]
    simp only [World.cell?, h, Option.isSome_none, Bool.false_eq_true, if_false]
    rw [List.getElem?_toArray]
    unfold bvC bkC
    rw [List.getElem?_append_left (by rw [bs_length]; exact hjl), bs_get, hj]
    rfl)
  rw [x.len] at this
  unfold Extern.Bytes.bytesOf
  rw [this]
  congr 1
  apply ByteArray.ext
  show #[] ++ x.key.toArray = _
  simp
theorem cmpLaysB (blk off size : Nat) (w : World) : CmpLays Try.prog 29 #[] bvC 35 cfB blk off size w := fun m os dk hs x y =>
  closure_any (bvC x).toArray (bvC y).toArray (cfB x y) _ fun W' h0 h1 => compare_any _ _ _ _ W' (key_bytes x _ _ W' h0) (key_bytes y _ _ W' h1)
theorem sortB_spec (v : Value) (xs : List BV) (hlen : xs.length < 4611686018427387904) (F : HP) : CallsS Try.prog 35 #[v, .func (.func 29) #[] #[]] F [rowP 40 35 v xs.length (recC bvC xs)]
    (fun r Ps => r = .tuple #[] ∧ ∃ ys, ys.Perm xs ∧ ys.Pairwise (fun a b => ltK b.key a.key = false) ∧ Ps = [rowP 40 35 v ys.length (recC bvC ys)]) :=
  (sortFunc_S laysSort (k := 35) (e := 40) (enc := bvC) Try.isAgg40 Try.sizeOf40 bvC_length bvC_one cfB swoB 29 #[] (enters_of Try.func29 (by kernel_rfl) rfl) cmpLaysB v xs hlen F).imp fun r Ps ⟨h1, ys, h2, h3, h4⟩ =>
    ⟨h1, ys, h2, h3.imp fun h => by rw [← lt_cfB]; exact h, h4⟩
end Go.Proofs.Ytjopgnkffhfhkaa
/- What the program says of its types of elements. -/
namespace Go.Proofs.Ytjopgnkffhfhkaa.TI
set_option linter.unusedVariables false
theorem hi5 : Try.prog.info? 5 = some Try.t5 := by kernel_rfl
theorem hz5 : Try.t5.zero = some (.int .u8 0) := by kernel_rfl
theorem hs5 : Try.t5.size = 1 := by kernel_rfl
theorem hby5 : Try.t5.bytes = 1 := by kernel_rfl
theorem hzs5 : (.int .u8 0 : Value).cells.size = 1 := by kernel_rfl
theorem hsm5 : (Try.prog.info? 5).map (·.size) = some 1 := by kernel_rfl
theorem hi3 : Try.prog.info? 3 = some Try.t3 := by kernel_rfl
theorem hz3 : Try.t3.zero = some (.int .i64 0) := by kernel_rfl
theorem hs3 : Try.t3.size = 1 := by kernel_rfl
theorem hby3 : Try.t3.bytes = 8 := by kernel_rfl
theorem hzs3 : (.int .i64 0 : Value).cells.size = 1 := by kernel_rfl
theorem hsm3 : (Try.prog.info? 3).map (·.size) = some 1 := by kernel_rfl
theorem hi36 : Try.prog.info? 36 = some Try.t36 := by kernel_rfl
theorem hz36 : Try.t36.zero = some (.agg (bs zeroId).toArray) := by kernel_rfl
theorem hs36 : Try.t36.size = 32 := by kernel_rfl
theorem hby36 : Try.t36.bytes = 32 := by kernel_rfl
theorem hzs36 : (.agg (bs zeroId).toArray : Value).cells.size = 32 := by kernel_rfl
theorem hsm36 : (Try.prog.info? 36).map (·.size) = some 32 := by kernel_rfl
theorem hi38 : Try.prog.info? 38 = some Try.t38 := by kernel_rfl
theorem hz38 : Try.t38.zero = some (.slice none 0 0) := by kernel_rfl
theorem hs38 : Try.t38.size = 1 := by kernel_rfl
theorem hby38 : Try.t38.bytes = 24 := by kernel_rfl
theorem hzs38 : (.slice none 0 0 : Value).cells.size = 1 := by kernel_rfl
theorem hsm38 : (Try.prog.info? 38).map (·.size) = some 1 := by kernel_rfl
theorem hi40 : Try.prog.info? 40 = some Try.t40 := by kernel_rfl
theorem hz40 : Try.t40.zero = some (.agg (bkC zeroId (.slice none 0 0) 0 0).toArray) := by kernel_rfl
theorem hs40 : Try.t40.size = 35 := by kernel_rfl
theorem hby40 : Try.t40.bytes = 72 := by kernel_rfl
theorem hzs40 : (.agg (bkC zeroId (.slice none 0 0) 0 0).toArray : Value).cells.size = 35 := by kernel_rfl
theorem hsm40 : (Try.prog.info? 40).map (·.size) = some 35 := by kernel_rfl
end Go.Proofs.Ytjopgnkffhfhkaa.TI
/- Symbolic states: maps, keyed by ids or by numbers: asked, written, ranged over. -/
namespace Go.Proofs.Ytjopgnkffhfhkaa
open Go.RowKit
set_option linter.unusedVariables false
set_option linter.unusedSimpArgs false
set_option linter.unusedSectionVars false
section
variable {κ : Type} [DecidableEq κ]
def findG (k : κ) : List (κ × Value) → Nat → Option (Nat × Value)
  | [], _ => none
  | p :: es, i => if k = p.1 then some (i, p.2) else findG k es (i + 1)
def lookQ (k : κ) : List (κ × Value) → Option Value
  | [] => none
  | p :: es => if k = p.1 then some p.2 else lookQ k es
def setQ (k : κ) (v : Value) : List (κ × Value) → List (κ × Value)
  | [] => []
  | p :: es => if k = p.1 then (k, v) :: es else p :: setQ k v es
def delQ (k : κ) : List (κ × Value) → List (κ × Value)
  | [] => []
  | p :: es => if k = p.1 then es else p :: delQ k es
theorem findG_none (k : κ) : ∀ (es : List (κ × Value)) (i : Nat), findG k es i = none → lookQ k es = none ∧ delQ k es = es ∧ ∀ p ∈ es, k ≠ p.1
  | [], _, _ => ⟨rfl, rfl, by simp⟩
  | p :: es, i, h => by
    rw [findG] at h
    by_cases hk : k = p.1
    · simp [hk] at h
    · rw [if_neg hk] at h
      obtain ⟨h1, h2, h3⟩ := findG_none k es (i + 1) h
      refine ⟨by rw [lookQ, if_neg hk, h1], by rw [delQ, if_neg hk, h2], fun q hq => ?_⟩
      rcases List.mem_cons.1 hq with rfl | hq
      · exact hk
      · exact h3 q hq
theorem findG_some (k : κ) : ∀ (es : List (κ × Value)) (i j : Nat) (v : Value), findG k es i = some (j, v) → i ≤ j ∧ lookQ k es = some v ∧ es[j - i]? = some (k, v) ∧ delQ k es = es.eraseIdx (j - i) ∧ ∀ v', setQ k v' es = es.set (j - i) (k, v')
  | [], _, _, _, h => by simp [findG] at h
  | p :: es, i, j, v, h => by
    rw [findG] at h
    by_cases hk : k = p.1
    · rw [if_pos hk] at h
      injection h with h
      injection h with h1 h2
      subst h1; subst h2
      refine ⟨Nat.le_refl _, by rw [lookQ, if_pos hk], ?_, ?_, fun v' => ?_⟩
      · rw [Nat.sub_self, List.getElem?_cons_zero, hk]
      · rw [Nat.sub_self, delQ, if_pos hk]; rfl
      · rw [Nat.sub_self, setQ, if_pos hk]; rfl
    · rw [if_neg hk] at h
      obtain ⟨h1, h2, h3, h4, h5⟩ := findG_some k es (i + 1) j v h
      have e : j - i = (j - (i + 1)) + 1 := by omega
      refine ⟨by omega, by rw [lookQ, if_neg hk, h2], ?_, ?_, fun v' => ?_⟩
      · rw [e, List.getElem?_cons_succ, h3]
      · rw [e, delQ, if_neg hk, h4]; rfl
      · rw [e, setQ, if_neg hk, h5 v']; rfl
/-- A kind of keys. -/
structure KeyT (P : Program) (kt : TypeId) (enc : κ → Value) (ok : κ → Prop) : Prop where
  check : ∀ em k w, ok k → (Instr.checkKey em 10000 kt (enc k)).run P w = .ok () w
  find : ∀ k w (es : List (κ × Value)) (a : List MapEntry), ok k → (∀ p ∈ es, ok p.1) → a.map (fun e => (e.key, e.val)) = es.map (fun p => (enc p.1, p.2)) → (Instr.findKey kt (enc k) a).run P w = .ok (findG k es 0) w
  inj : ∀ a b, enc a = enc b → a = b
  stays : ∀ k w, (Instr.keyThatStays (enc k) (enc k)).run P w = .ok (enc k) w
def kvs (enc : κ → Value) (es : List (κ × Value)) : List (Value × Value) := es.map fun p => (enc p.1, p.2)
def ekv (l : List MapEntry) : List (Value × Value) := l.map fun e => (e.key, e.val)
/-- A range under way: its block, what is to come, what just came. -/
abbrev It (κ : Type) := Nat × List (κ × Value) × Option (κ × Value)
def mapQ (enc : κ → Value) (ok : κ → Prop) (g : Nat) (es : List (κ × Value)) (it : Option (It κ)) : HP := fun h => (∀ p ∈ es, ok p.1) ∧ ∃ a clk, h g = some (.map a clk) ∧ MapKept.Stamped a clk ∧ ekv a.toList = kvs enc es ∧
  match it with
  | none => True
  | some (r, left, cur) => ∃ seen : Array Nat, h r = some (.mapIter (some g) clk seen clk) ∧ r ≠ g ∧ ekv (a.toList.filter fun e => !seen.contains e.born) = kvs enc left ∧
    match cur with
    | none => True
    | some p => ∃ (seen0 : Array Nat) (e : MapEntry), e ∈ a.toList ∧ seen = seen0.push e.born ∧ (e.key, e.val) = (enc p.1, p.2)
variable {P : Program} {E : Env} {n : Nat} {K : Slots} {L : Res} {o : Oper} {C : Value → Res → Prop} {kt mt et : TypeId} {enc : κ → Value} {ok : κ → Prop}
theorem mapQ_none {g : Nat} {es : List (κ × Value)} {it : Option (It κ)} {h : Hlt} (hp : mapQ enc ok g es it h) : mapQ enc ok g es none h := by
  obtain ⟨h1, a, clk, h2, h3, h4, _⟩ := hp
  exact ⟨h1, a, clk, h2, h3, h4, trivial⟩
theorem mapQ_uncur {g r : Nat} {es left : List (κ × Value)} {cur : Option (κ × Value)} {h : Hlt} (hp : mapQ enc ok g es (some (r, left, cur)) h) : mapQ enc ok g es (some (r, left, none)) h := by
  obtain ⟨h1, a, clk, h2, h3, h4, seen, s1, s2, s3, _⟩ := hp
  exact ⟨h1, a, clk, h2, h3, h4, seen, s1, s2, s3, trivial⟩
theorem run_lookupQ (T : KeyT P kt enc ok) (hm : P.underlying mt = some (.map kt et)) {z : Value} (hz : ∀ w, (zeroValue et).run P w = .ok z w)
    {g : Nat} {es : List (κ × Value)} {it : Option (It κ)} {h : Hlt} {w : World} (hp : mapQ enc ok g es it h) (hi : In h w) (k : κ) (hl : ok k) (okb : Bool) :
    (Instr.lookup mt (.map (some g)) (enc k) okb).run P w = .ok (if okb then .tuple #[(lookQ k es).getD z, .bool (lookQ k es).isSome] else (lookQ k es).getD z) w := by
  obtain ⟨h1, a, clk, h2, _, h3, _⟩ := hp
  have hg := hi _ _ h2
  unfold Instr.lookup
  simp only [Sem.run_bind, run_underlying hm, Result.andThen_ok, MapKept.run_getObj_map hg, Sem.run_pure, T.check _ k _ hl, T.find k w es a.toList hl h1 h3]
  cases hf : findG k es 0 with
  | none => rw [(findG_none k es 0 hf).1]; simp [hz]
  | some jv =>
    obtain ⟨j, v⟩ := jv
    rw [(findG_some k es 0 j v hf).2.1]
    cases okb <;> simp
theorem Pu_lookupQ {r g : Nat} {x y : Operand} {k : κ} {es : List (κ × Value)} {it : Option (It κ)} {z : Value} (T : KeyT P kt enc ok) (ho : o.op = .lookup mt x y false) (hm : P.underlying mt = some (.map kt et)) (hz : ∀ w, (zeroValue et).run P w = .ok z w)
    (hx : evK K x = some (.map (some g))) (hy : evK K y = some (enc k)) (hl : ok k) (hr : look L r = some (mapQ enc ok g es it)) : Pure P E n o K L ((lookQ k es).getD z) := fun a w hA hS => by
  obtain ⟨h, q1, q2⟩ := hS.read hr
  have := run_lookupQ T hm hz q1 q2 k hl false
  simp only [Bool.false_eq_true, if_false] at this
  simp only [execOp, ho, hA.eval hx, hA.eval hy, Sem.run_bind, this]
  rfl
theorem Pu_lookupOkQ {r g : Nat} {x y : Operand} {k : κ} {es : List (κ × Value)} {it : Option (It κ)} {z : Value} (T : KeyT P kt enc ok) (ho : o.op = .lookup mt x y true) (hm : P.underlying mt = some (.map kt et)) (hz : ∀ w, (zeroValue et).run P w = .ok z w)
    (hx : evK K x = some (.map (some g))) (hy : evK K y = some (enc k)) (hl : ok k) (hr : look L r = some (mapQ enc ok g es it)) : Pure P E n o K L (.tuple #[(lookQ k es).getD z, .bool (lookQ k es).isSome]) := fun a w hA hS => by
  obtain ⟨h, q1, q2⟩ := hS.read hr
  have := run_lookupQ T hm hz q1 q2 k hl true
  simp only [if_true] at this
  simp only [execOp, ho, hA.eval hx, hA.eval hy, Sem.run_bind, this]
  rfl
theorem OpT_makeMapQ {r : Nat} (enc : κ → Value) (ok : κ → Prop) (ho : o.op = .makeMap mt none) (k : ∀ g, C (.map (some g)) ((r, mapQ enc ok g [] none) :: L)) : OpT P E n o K L C := fun a w Kc Q hA hS hK => by
  have hrun := run_makeMap (P := P) mt w
  unfold Oper.wp execOp
  simp only [ho, Option.map_none, Sem.run_bind, hrun, Result.andThen_ok, Sem.run_pure]
  refine hK _ _ _ (k _) (hS.new r ?_ (fun g => if g = w.heap.size then some (.map #[] 0) else none) ?_ ?_ ?_)
  · exact ⟨rfl, rfl, rfl, by simp, fun k hk _ => heap_alloc_old w _ hk⟩
  · exact ⟨fun x hx => by simp at hx, #[], 0, by simp, MapKept.stamped_empty 0, rfl, trivial⟩
  · intro g o h
    by_cases hg : g = w.heap.size
    · subst hg
      simp at h
      subst h
      exact heap_alloc_new w _
    · simp [hg] at h
  · intro g hg
    by_cases hg' : g = w.heap.size
    · omega
    · simp [hg'] at hg
/-- The map's own block is turned. -/
theorem mapQ_step {w : World} {r g : Nat} {Pm P' : HP} (hS : Sat E L w) (hr : look L r = some Pm) (a' : Array MapEntry) (clk' : Nat) (hg : ∀ h, Pm h → (h g).isSome = true)
    {a : Array MapEntry} {clk : Nat} (hw : w.heap[g]? = some (.map a clk)) (H : ∀ h, Pm h → In h w → P' (fun q => if q = g then some (.map a' clk') else h q)) : Sat E ((r, P') :: L) { w with heap := w.heap.setIfInBounds g (.map a' clk') } :=
  hS.step hr fun h hp hin => by
    obtain ⟨s1, s2⟩ := setObj_step (.map a' clk') hw
    refine ⟨[g], _, by simpa using hg h hp, s1, H h hp hin, fun q o ho => ?_, fun q hq => ?_⟩
    · by_cases hqg : q = g
      · subst hqg; simp at ho; subst ho; exact s2
      · simp [hqg] at ho
        have := hin q o ho
        show (w.heap.setIfInBounds g _)[q]? = some o
        rw [Array.getElem?_setIfInBounds_ne (Ne.symm hqg)]
        exact this
    · by_cases hqg : q = g
      · subst hqg; exact .inl (hg h hp)
      · simp [hqg] at hq; exact .inl hq
theorem mapQ_dom {g : Nat} {es : List (κ × Value)} {it : Option (It κ)} : ∀ h, mapQ enc ok g es it h → (h g).isSome = true := fun h ⟨_, a, clk, h2, _⟩ => by simp [h2]
theorem ekv_len {a : Array MapEntry} {es : List (κ × Value)} (h : ekv a.toList = kvs enc es) : a.size = es.length := by
  have := congrArg List.length h
  simpa [ekv, kvs] using this
theorem ekv_get {a : Array MapEntry} {es : List (κ × Value)} (h : ekv a.toList = kvs enc es) {j : Nat} {k : κ} {v : Value} (hj : es[j]? = some (k, v)) : ∃ e, a[j]? = some e ∧ e.key = enc k ∧ e.val = v := by
  have h1 : (kvs enc es)[j]? = some (enc k, v) := by simp [kvs, hj]
  rw [← h] at h1
  simp only [ekv, List.getElem?_map, Array.getElem?_toList] at h1
  cases ha : a[j]? with
  | none => rw [ha] at h1; cases h1
  | some e =>
    rw [ha] at h1
    simp at h1
    exact ⟨e, rfl, h1.1, h1.2⟩
/-- A key that is not there is put. -/
theorem OpT_mapAddQ {r g : Nat} {x y z : Operand} {k : κ} {v : Value} {es : List (κ × Value)} (T : KeyT P kt enc ok) (ho : o.op = .mapUpdate mt x y z) (hm : P.underlying mt = some (.map kt et))
    (hx : evK K x = some (.map (some g))) (hy : evK K y = some (enc k)) (hl : ok k) (hz : evK K z = some v) (hr : look L r = some (mapQ enc ok g es none)) (hno : lookQ k es = none) (hc : C undef ((r, mapQ enc ok g (es ++ [(k, v)]) none) :: L)) : OpT P E n o K L C := fun a w Kc Q hA hS hK => by
  obtain ⟨h, q1, q2⟩ := hS.read hr
  obtain ⟨h1, b, clk, h2, hst, h3, _⟩ := q1
  have hg := q2 _ _ h2
  have hf : findG k es 0 = none := by
    cases hf : findG k es 0 with
    | none => rfl
    | some jv => rw [(findG_some k es 0 jv.1 jv.2 hf).2.1] at hno; cases hno
  have hrun : (Instr.mapUpdate mt (.map (some g)) (enc k) v).run P w = .ok () { w with heap := w.heap.setIfInBounds g (.map (b.push { key := enc k, val := v, born := clk }) (clk + 1)) } := by
    unfold Instr.mapUpdate
    simp only [Sem.run_bind, run_underlying hm, Result.andThen_ok, MapKept.run_getObj_map hg, Sem.run_pure, T.check _ k _ hl, T.find k w es b.toList hl h1 h3, hf, MapKept.run_setObj_map _ hg]
  unfold Oper.wp execOp
  simp only [ho, hA.eval hx, hA.eval hy, hA.eval hz, Sem.run_bind, hrun, Result.andThen_ok, Sem.run_pure]
  refine hK _ _ _ hc (mapQ_step hS hr _ _ mapQ_dom hg fun h' hp' hin' => ?_)
  have hx' := (findG_none k es 0 hf).2.2
  refine ⟨?_, b.push { key := enc k, val := v, born := clk }, clk + 1, if_pos rfl, MapKept.stamped_push hst fun x hx => ?_, ?_, trivial⟩
  · intro p hp
    rcases List.mem_append.1 hp with hp | hp
    · exact h1 p hp
    · rw [List.mem_singleton.1 hp]; exact hl
  · intro hke
    have : (x.key, x.val) ∈ kvs enc es := by rw [← h3]; exact List.mem_map.2 ⟨x, hx, rfl⟩
    obtain ⟨p, hp, hpe⟩ := List.mem_map.1 this
    injection hpe with e1 e2
    exact hx' p hp (T.inj _ _ (by rw [e1, hke]))
  · simp only [ekv, kvs, Array.toList_push, List.map_append, List.map_cons, List.map_nil]
    exact congrArg (· ++ [(enc k, v)]) h3
theorem map_modify_set {α β : Type} (f : α → β) (m : α → α) (b : β) : ∀ (l : List α) (i : Nat), (∀ x, f (m x) = b) → (l.modify i m).map f = (l.map f).set i b
  | [], i, _ => by simp
  | x :: l, 0, hb => by simp [hb]
  | x :: l, i + 1, hb => by simp [map_modify_set f m b l i hb]
/-- A key that is there is put anew. -/
theorem OpT_mapSetQ {r g : Nat} {x y z : Operand} {k : κ} {v : Value} {es : List (κ × Value)} (T : KeyT P kt enc ok) (ho : o.op = .mapUpdate mt x y z) (hm : P.underlying mt = some (.map kt et))
    (hx : evK K x = some (.map (some g))) (hy : evK K y = some (enc k)) (hl : ok k) (hz : evK K z = some v) (hr : look L r = some (mapQ enc ok g es none)) (hno : (lookQ k es).isSome = true) (hc : C undef ((r, mapQ enc ok g (setQ k v es) none) :: L)) : OpT P E n o K L C := fun a w Kc Q hA hS hK => by
  obtain ⟨h, q1, q2⟩ := hS.read hr
  obtain ⟨h1, b, clk, h2, hst, h3, _⟩ := q1
  have hg := q2 _ _ h2
  cases hf : findG k es 0 with
  | none => rw [(findG_none k es 0 hf).1] at hno; cases hno
  | some jv =>
    obtain ⟨j, u⟩ := jv
    obtain ⟨_, _, f3, _, f5⟩ := findG_some k es 0 j u hf
    rw [Nat.sub_zero] at f3
    have f5 := f5 v
    rw [Nat.sub_zero] at f5
    obtain ⟨e, he, hek, hev⟩ := ekv_get h3 f3
    have hrun : (Instr.mapUpdate mt (.map (some g)) (enc k) v).run P w = .ok () { w with heap := w.heap.setIfInBounds g (.map (b.modify j fun e => { e with key := enc k, val := v }) clk) } := by
      unfold Instr.mapUpdate
      simp only [Sem.run_bind, run_underlying hm, Result.andThen_ok, MapKept.run_getObj_map hg, Sem.run_pure, T.check _ k _ hl, T.find k w es b.toList hl h1 h3, hf, he, Option.map_some, Option.getD_some, hek, T.stays, MapKept.run_setObj_map _ hg]
    unfold Oper.wp execOp
    simp only [ho, hA.eval hx, hA.eval hy, hA.eval hz, Sem.run_bind, hrun, Result.andThen_ok, Sem.run_pure]
    refine hK _ _ _ hc (mapQ_step hS hr _ _ mapQ_dom hg fun h' hp' hin' => ?_)
    refine ⟨?_, b.modify j fun e => { e with key := enc k, val := v }, clk, if_pos rfl, MapKept.stamped_modify hst j _ (fun _ _ => rfl) (fun x hx hj => ?_), ?_, trivial⟩
    · rw [f5]
      intro p hp
      rcases List.mem_or_eq_of_mem_set hp with hp | hp
      · exact h1 p hp
      · rw [hp]; exact hl
    · rw [he] at hj; injection hj with hj; rw [← hj]; exact hek.symm
    · rw [f5]
      simp only [ekv, kvs, Array.toList_modify, List.map_set]
      rw [map_modify_set (fun e : MapEntry => (e.key, e.val)) (fun e : MapEntry => { e with key := enc k, val := v }) (enc k, v) _ _ (fun x => rfl)]
      exact congrArg (fun l => List.set l j (enc k, v)) h3
theorem filter_eraseIdx {α : Type} (p : α → Bool) : ∀ (l : List α) (j : Nat) (x : α), l[j]? = some x → p x = false → (l.eraseIdx j).filter p = l.filter p
  | [], j, x, h, _ => by simp at h
  | y :: l, 0, x, h, hp => by
    simp at h
    subst h
    simp [hp]
  | y :: l, j + 1, x, h, hp => by
    simp at h
    rw [List.eraseIdx_cons_succ, List.filter_cons, List.filter_cons, filter_eraseIdx p l j x h hp]
/-- What becomes of a range when a key is taken out that has come. -/
def itDel (it : Option (It κ)) : Option (It κ) := it.map fun i => (i.1, i.2.1, none)
theorem OpT_deleteQ {r g : Nat} {x y : Operand} {k : κ} {t2 : TypeId} {es : List (κ × Value)} {it : Option (It κ)} (T : KeyT P kt enc ok) (ho : o.op = .call { callee := .builtin .delete, args := #[x, y], argTypes := #[mt, t2] }) (hm : P.underlying mt = some (.map kt et))
    (hx : evK K x = some (.map (some g))) (hy : evK K y = some (enc k)) (hl : ok k) (hr : look L r = some (mapQ enc ok g es it)) (hleft : ∀ i, it = some i → ∀ p ∈ i.2.1, p.1 ≠ k) (hc : C (.tuple #[]) ((r, mapQ enc ok g (delQ k es) (itDel it)) :: L)) : OpT P E n o K L C := fun a w Kc Q hA hS hK => by
  obtain ⟨h, q1, q2⟩ := hS.read hr
  obtain ⟨h1, b, clk, h2, hst, h3, _⟩ := q1
  have hg := q2 _ _ h2
  have hsub : ∀ (b' : Array MapEntry), ekv b'.toList = kvs enc (delQ k es) → MapKept.Stamped b' clk → (∀ seen : Array Nat, ∀ left, (∀ p ∈ left, p.1 ≠ k) → ekv (b.toList.filter fun e => !seen.contains e.born) = kvs enc left → b'.toList.filter (fun e => !seen.contains e.born) = b.toList.filter fun e => !seen.contains e.born) →
      (∀ p ∈ delQ k es, ok p.1) → (Builtin.delete_ #[mt, t2] o.type #[.map (some g), enc k]).run P w = .ok (.tuple #[]) { w with heap := w.heap.setIfInBounds g (.map b' clk) } → Oper.wp P o a w Kc Q := by
    intro b' hb1 hb2 hb3 hb4 hrun
    unfold Oper.wp execOp
    simp only [ho, resolve, invoke, builtin, Sem.run_bind, Sem.run_pure, Result.andThen_ok, List.map_toArray, List.map_cons, List.map_nil, hA.eval hx, hA.eval hy, hrun]
    refine hK _ _ _ hc (mapQ_step hS hr _ _ mapQ_dom hg fun h' hp' hin' => ?_)
    refine ⟨hb4, _, _, by simp, hb2, hb1, ?_⟩
    obtain ⟨_, a2, clk2, i2, _, _, i5⟩ := hp'
    have := hin' _ _ i2
    rw [hg] at this
    injection this with this
    injection this with this1 this2
    subst this1; subst this2
    cases it with
    | none => trivial
    | some i =>
      obtain ⟨r', left, cur⟩ := i
      obtain ⟨seen, s1, s2, s3, _⟩ := i5
      refine ⟨seen, by simp [s2, s1], s2, ?_, trivial⟩
      rw [hb3 seen left (hleft _ rfl) s3]
      exact s3
  cases hf : findG k es 0 with
  | none =>
    have hd := (findG_none k es 0 hf).2.1
    refine hsub b (by rw [hd]; exact h3) hst (fun _ _ _ _ => rfl) (by rw [hd]; exact h1) ?_
    unfold Builtin.delete_
    simp [run_underlying hm, MapKept.run_getObj_map hg, T.check _ k _ hl, T.find k w es b.toList hl h1 h3, hf, MapKept.run_setObj_map _ hg]
  | some jv =>
    obtain ⟨j, v⟩ := jv
    obtain ⟨_, _, f3, f4, _⟩ := findG_some k es 0 j v hf
    rw [Nat.sub_zero] at f3 f4
    obtain ⟨e, he, hek, hev⟩ := ekv_get h3 f3
    have hj : j < b.size := (Array.getElem?_eq_some_iff.1 he).1
    have hel : (b.eraseIdxIfInBounds j).toList = b.toList.eraseIdx j := by rw [Array.eraseIdxIfInBounds, dif_pos hj, Array.toList_eraseIdx]
    refine hsub (b.eraseIdxIfInBounds j) ?_ (MapKept.stamped_erase hst j) (fun seen left hlf hs => ?_) ?_ ?_
    · rw [hel, f4]
      simp only [ekv, kvs, map_eraseIdx]
      exact congrArg (fun l => List.eraseIdx l j) h3
    · rw [hel]
      refine filter_eraseIdx _ _ _ e (by rw [Array.getElem?_toList]; exact he) ?_
      cases hcs : seen.contains e.born with
      | true => rfl
      | false =>
        exfalso
        have : (e.key, e.val) ∈ kvs enc left := by
          rw [← hs]
          refine List.mem_map.2 ⟨e, List.mem_filter.2 ⟨?_, by simp only [hcs, Bool.not_false]⟩, rfl⟩
          exact List.mem_of_getElem? (i := j) (by rw [Array.getElem?_toList]; exact he)
        obtain ⟨p, hp, hpe⟩ := List.mem_map.1 this
        injection hpe with e1 e2
        exact hlf p hp (T.inj _ _ (by rw [e1, hek]))
    · intro p hp
      rw [f4] at hp
      exact h1 p (List.mem_of_mem_eraseIdx hp)
    · unfold Builtin.delete_
      simp [run_underlying hm, MapKept.run_getObj_map hg, T.check _ k _ hl, T.find k w es b.toList hl h1 h3, hf, MapKept.run_setObj_map _ hg]
/-- A range begins. -/
theorem OpT_rangeQ {r g : Nat} {x : Operand} {es : List (κ × Value)} (ho : o.op = .range mt x) (hm : P.underlying mt = some (.map kt et)) (hx : evK K x = some (.map (some g))) (hr : look L r = some (mapQ enc ok g es none))
    (hc : ∀ i, C (.pointer (some ⟨i, 0, none⟩)) ((r, mapQ enc ok g es (some (i, es, none))) :: L)) : OpT P E n o K L C := fun a w Kc Q hA hS hK => by
  obtain ⟨h, q1, q2⟩ := hS.read hr
  obtain ⟨h1, b, clk, h2, hst, h3, _⟩ := q1
  have hg := q2 _ _ h2
  have hrun := run_range_map w mt kt et g b clk hm hg
  unfold Oper.wp execOp
  simp only [ho, hA.eval hx, Sem.run_bind, hrun, Result.andThen_ok, Sem.run_pure]
  refine hK _ _ _ (hc _) (hS.step hr fun h' hp' hin' => ?_)
  have hlt := lt_of_heap hg
  obtain ⟨_, a2, clk2, i2, _, _, _⟩ := hp'
  have := hin' _ _ i2
  rw [hg] at this
  injection this with this
  injection this with this1 this2
  subst this1; subst this2
  refine ⟨[], fun q => if q = w.heap.size then some (.mapIter (some g) clk #[] clk) else h' q, by simp, ⟨rfl, rfl, rfl, by simp, fun k hk _ => heap_alloc_old w _ hk⟩, ?_, fun q o ho => ?_, fun q hq => ?_⟩
  · refine ⟨h1, b, clk, by simp [i2, Nat.ne_of_lt hlt], hst, h3, #[], by simp, by omega, ?_, trivial⟩
    rw [List.filter_eq_self.2 (by simp)]
    exact h3
  · by_cases hq : q = w.heap.size
    · subst hq; simp at ho; subst ho; exact heap_alloc_new w _
    · simp [hq] at ho
      have := hin' q o ho
      rw [heap_alloc_old w _ (lt_of_heap this)]
      exact this
  · by_cases hq' : q = w.heap.size
    · exact .inr (by omega)
    · simp [hq'] at hq; exact .inl hq
/-- The step of a range. -/
theorem OpT_nextQ {r g i : Nat} {x : Operand} {es left : List (κ × Value)} {cur : Option (κ × Value)} (T : KeyT P kt enc ok) (ho : o.op = .next x false) (hx : evK K x = some (.pointer (some ⟨i, 0, none⟩))) (hr : look L r = some (mapQ enc ok g es (some (i, left, cur))))
    (hend : left = [] → C (.tuple #[.bool false]) L) (hmore : ∀ p l', p ∈ es → left.Perm (p :: l') → C (.tuple #[.bool true, enc p.1, p.2]) ((r, mapQ enc ok g es (some (i, l', some p))) :: L)) : OpT P E n o K L C := fun a w Kc Q hA hS hK => by
  obtain ⟨h, q1, q2⟩ := hS.read hr
  obtain ⟨h1, b, clk, h2, hst, h3, seen, s1, s2, s3, _⟩ := q1
  have hg := q2 _ _ h2
  have hi := q2 _ _ s1
  rcases run_next_at (P := P) w o.type i g clk clk seen b clk hi hg hst.1 (Nat.le_refl _) with ⟨h0, hrun⟩ | ⟨e, he, w1, hw1, hrun⟩
  · unfold Oper.wp execOp
    simp only [ho, hA.eval hx, Sem.run_bind, hrun, Result.andThen_ok, Sem.run_pure]
    refine hK _ _ _ (hend ?_) hS
    have : (b.toList.filter fun e => !seen.contains e.born) = [] := by
      unfold leftOf at h0
      have h0 : (b.filter fun e => !seen.contains e.born).toList.length = 0 := by simpa using h0
      rw [Array.toList_filter] at h0
      exact List.length_eq_zero_iff.1 h0
    rw [this] at s3
    simp [ekv, kvs] at s3
    exact s3.symm ▸ rfl
  · have hel : e ∈ b.toList.filter fun e => !seen.contains e.born := by
      unfold leftOf at he
      rw [Array.toList_filter] at he
      exact he
    obtain ⟨l1, l2, hl⟩ := List.append_of_mem hel
    have hmem := List.mem_filter.1 hel
    -- what is to come
    have hk : kvs enc left = ekv l1 ++ (e.key, e.val) :: ekv l2 := by rw [← s3, hl]; simp [ekv]
    obtain ⟨p1, p2, hp12, hp1, hp2⟩ := List.map_eq_append_iff.1 (show left.map (fun p => (enc p.1, p.2)) = ekv l1 ++ (e.key, e.val) :: ekv l2 from hk)
    obtain ⟨p, p3, hp3, hpe, hp4⟩ := List.map_eq_cons_iff.1 hp2
    subst hp3; subst hp12
    injection hpe with hpk hpv
    have hpes : ∃ q ∈ es, enc q.1 = e.key ∧ q.2 = e.val := by
      have : (e.key, e.val) ∈ kvs enc es := by rw [← h3]; exact List.mem_map.2 ⟨e, hmem.1, rfl⟩
      obtain ⟨q, hq, hqe⟩ := List.mem_map.1 this
      injection hqe with e1 e2
      exact ⟨q, hq, e1, e2⟩
    have hfl : (b.toList.filter fun x => !(seen.push e.born).contains x.born) = l1 ++ l2 := by
      have hnd : (l1 ++ e :: l2).Pairwise (fun x y => x.born ≠ y.born) := by
        rw [← hl]
        have := hst.2.1
        rw [List.Nodup, List.pairwise_map] at this
        exact this.sublist List.filter_sublist
      have hff : (b.toList.filter fun x => !(seen.push e.born).contains x.born) = (b.toList.filter fun e => !seen.contains e.born).filter fun x => !(x.born == e.born) := by
        rw [List.filter_filter]
        refine List.filter_congr fun x hx => ?_
        rw [contains_push]
        cases seen.contains x.born <;> cases x.born == e.born <;> rfl
      rw [hff, hl]
      rw [List.pairwise_append] at hnd
      obtain ⟨_, n2, n3⟩ := hnd
      have n2 := (List.pairwise_cons.1 n2).1
      rw [List.filter_append, List.filter_cons, List.filter_eq_self.2 (fun x hx => by simpa using n3 x hx e (by simp)), List.filter_eq_self.2 (fun x hx => by simpa using Ne.symm (n2 x hx))]
      simp
    unfold Oper.wp execOp
    simp only [ho, hA.eval hx, Sem.run_bind, hrun, Result.andThen_ok, Sem.run_pure]
    obtain ⟨q, hq1, hq2, hq3⟩ := hpes
    rw [← hpk, ← hpv]
    have hpin : p ∈ es := by
      have e1 := T.inj q.1 p.1 (by rw [hq2, hpk])
      have e2 : q = p := Prod.ext e1 (by rw [hq3, hpv])
      exact e2 ▸ hq1
    refine hK _ _ _ (hmore p (p1 ++ p3) hpin List.perm_middle) (hS.step hr fun h' hp' hin' => ?_)
    obtain ⟨_, a2, clk2, i2, _, _, seen', i4, _⟩ := hp'
    have e2 := hin' _ _ i2
    have e3 := hin' _ _ i4
    rw [hg] at e2
    injection e2 with e2
    injection e2 with e21 e22
    subst e21; subst e22
    rw [hi] at e3
    injection e3 with e3
    injection e3 with _ _ e31 _
    subst e31
    have hi1 : w1.heap[i]? = some (.mapIter (some g) clk seen clk) := by rcases hw1 with rfl | rfl <;> exact hi
    have hset := MapKept.heap_set (o' := .mapIter (some g) clk (seen.push e.born) clk) hi1
    refine ⟨[i], fun q => if q = i then some (.mapIter (some g) clk (seen.push e.born) clk) else h' q, by simp [i4], ?_, ?_, fun q o ho => ?_, fun q hq => ?_⟩
    · rcases hw1 with rfl | rfl
      · exact ⟨rfl, rfl, rfl, by simp [ChangeMaps.setBlock], fun k hk hkn => hset.2 k (by simpa using hkn)⟩
      · exact ⟨rfl, rfl, rfl, by simp [ChangeMaps.setBlock], fun k hk hkn => hset.2 k (by simpa using hkn)⟩
    · refine ⟨h1, b, clk, by simp [Ne.symm s2, i2], hst, h3, seen.push e.born, by simp, s2, ?_, seen, e, hmem.1, rfl, by rw [hpk, hpv]⟩
      rw [hfl]
      show ekv (l1 ++ l2) = kvs enc (p1 ++ p3)
      rw [show kvs enc (p1 ++ p3) = kvs enc p1 ++ kvs enc p3 from List.map_append, show kvs enc p1 = ekv l1 from hp1, show kvs enc p3 = ekv l2 from hp4]
      exact List.map_append
    · by_cases hq : q = i
      · subst hq; simp at ho; subst ho; exact hset.1
      · simp [hq] at ho
        have := hin' q o ho
        have hw1q : w1.heap[q]? = some o := by rcases hw1 with rfl | rfl <;> exact this
        exact (hset.2 q hq).trans hw1q
    · by_cases hqi : q = i
      · subst hqi; exact .inl (by simp [i4])
      · simp [hqi] at hq; exact .inl hq
/-- What just came. -/
theorem Pu_entryQ {r g i : Nat} {x : Operand} {es left : List (κ × Value)} {p : κ × Value} (ho : o.op = .entry x) (hx : evK K x = some (.pointer (some ⟨i, 0, none⟩))) (hr : look L r = some (mapQ enc ok g es (some (i, left, some p)))) : Pure P E n o K L (.tuple #[enc p.1, p.2]) := fun a w hA hS => by
  obtain ⟨h, q1, q2⟩ := hS.read hr
  obtain ⟨h1, b, clk, h2, hst, h3, seen, s1, s2, s3, seen0, e, he, hse, hep⟩ := q1
  subst hse
  have hrun := run_entry_at (P := P) w i g clk seen0 b clk e (q2 _ _ s1) (q2 _ _ h2) he hst.2.1
  injection hep with e1 e2
  simp only [execOp, ho, hA.eval hx, Sem.run_bind, hrun]
  rw [e1, e2]
  rfl
end
section
variable {P : Program} {kt bt : TypeId}
theorem findI_findG (k : List UInt8) : ∀ (es : List (List UInt8 × Value)) (i : Nat), findI k es i = findG k es i
  | [], _ => rfl
  | p :: es, i => by
    rw [findI, findG, findI_findG k es (i + 1)]
    by_cases h : k = p.1 <;> simp [h]
theorem idV_inj (a b : List UInt8) (h : idV a = idV b) : a = b := by
  unfold idV at h
  injection h with h
  have h : a.map bv = b.map bv := by simpa [bs] using h
  refine List.map_inj_right (f := bv) (fun x y hxy => ?_) |>.1 h
  unfold bv at hxy
  injection hxy with _ hxy
  exact UInt8.toNat_inj.1 (by omega)
theorem keyT_id (hk : P.underlying kt = some (.array 32 bt)) (hb : P.underlying bt = some (.int .u8)) (hsz : ∀ w, (sizeOf bt).run P w = .ok 1 w) : KeyT P kt idV (fun k => k.length = 32) where
  check em k w h := run_checkId hk hb hsz em k h w
  find k w es a hl ho ha := by
    rw [← findI_findG]
    exact run_findKeyId hk hb hsz k hl w es a (fun x hx => by obtain ⟨p, hp, rfl⟩ := List.mem_map.1 hx; exact ho p hp) ha
  inj := idV_inj
  stays k w := by
    have : Instr.sameBits 10000 (idV k) (idV k) = true := by
      rw [show (10000 : Nat) = 9999 + 1 from rfl, idV, Instr.sameBits]
      simp only [beq_self_eq_true, Bool.true_and, List.all_eq_true]
      intro p hp
      obtain ⟨x, y⟩ := p
      have hxy := List.of_mem_zip hp
      have he : ∀ (l : List Value) (p : Value × Value), p ∈ l.zip l → p.1 = p.2 := by
        intro l
        induction l with
        | nil => intro p hp; simp at hp
        | cons u l ih =>
          intro p hp
          rw [List.zip_cons_cons] at hp
          rcases List.mem_cons.1 hp with rfl | hp
          · rfl
          · exact ih p hp
      have := he _ _ hp
      simp only at this
      subst this
      have : x ∈ bs k := by simpa using hxy.1
      obtain ⟨u, hu, rfl⟩ := List.mem_map.1 this
      simp [bv, Instr.sameBits]
    simp [Instr.keyThatStays, this]
theorem findNow_int (z : Int) : ∀ (es : List (Int × Value)) (a : List MapEntry) (i : Nat), a.map (fun e => (e.key, e.val)) = es.map (fun p => (Value.int .i64 p.1, p.2)) → Instr.findNow (.int .i64) (.int .i64 z) a i = some (findG z es i)
  | [], a, i, ha => by simp at ha; subst ha; rfl
  | p :: es, a, i, ha => by
    cases a with
    | nil => simp at ha
    | cons e a =>
      simp only [List.map_cons, List.cons.injEq, Prod.mk.injEq] at ha
      rw [Instr.findNow, ha.1.1, findG]
      simp only [Instr.sameNow, if_true]
      by_cases h : z = p.1
      · simp [h, ha.1.2]
      · rw [if_neg h, show (z == p.1) = false by simpa using h]
        exact findNow_int z es a (i + 1) ha.2
theorem keyT_int (hk : P.underlying kt = some (.int .i64)) : KeyT P kt (fun z : Int => Value.int .i64 z) (fun _ => True) where
  check em k w _ := MapKept.run_checkKey hk (show MapKept.IsKey (.int .i64) (.int .i64 k) from rfl) em _
  find k w es a _ _ ha := MapKept.run_findKey hk (findNow_int k es a 0 ha)
  inj a b h := by injection h
  stays k w := MapKept.run_keyThatStays (d := .int .i64) (show MapKept.IsKey (.int .i64) (.int .i64 k) from rfl)
end
theorem evL_all {K : Slots} {a : Act} {n : Nat} (hA : Agr n K a) : ∀ {xs : List Operand} {vs : List Value}, evL K xs = some vs → xs.map a.eval = vs
  | [], vs, h => by simp [evL] at h; subst h; rfl
  | x :: xs, vs, h => by
    rw [evL] at h
    cases hx : evK K x with
    | none => simp [hx] at h
    | some v =>
      cases hl : evL K xs with
      | none => simp [hx, hl] at h
      | some l =>
        simp [hx, hl] at h
        subst h
        rw [List.map_cons, hA.eval hx, evL_all hA hl]
theorem Pu_makeFunc {P : Program} {E : Env} {n : Nat} {K : Slots} {L : Res} {o : Oper} {f : FuncId} {xs : List Operand} {vs : List Value} (ho : o.op = .makeFunc (.func f) #[] xs.toArray) (hx : evL K xs = some vs) : Pure P E n o K L (.func (.func f) #[] vs.toArray) := fun a w hA hS => by
  have := evL_all hA hx
  simp only [execOp, ho]
  simp [this, Sem.run_bind, Instr.makeFunc, Result.andThen]
end Go.Proofs.Ytjopgnkffhfhkaa
/- Symbolic states: ranges over functions. -/
namespace Go.Proofs.Ytjopgnkffhfhkaa
open Go.RowKit
set_option linter.unusedVariables false
set_option linter.unusedSimpArgs false
def wideR (ro : Option Nat) : Fence := { Fence.wide with round := ro }
theorem callsIn_wideR {ro : Option Nat} {m : Nat} {P : Program} {f : FuncId} {args : Array Value} {w : World} {R : Ending → World → Prop} (h : Calls P f args w R) : CallsIn (wideR ro) m P f args w R := callsIn_wide.2 h
theorem wpIn_of_wp {ro : Option Nat} {m : Nat} {P : Program} {o : Oper} {a : Act} {w : World} {next : Act → World → Prop} {Q : Exit → Act → World → Prop} (hnd : ∀ c, o.op ≠ .defer c) (h : o.wp P a w next Q) : o.wpIn (wideR ro) m P a w next Q := by
  refine ⟨fun _ _ => trivial, ?_⟩
  have hs : o.semAt (wideR ro).round a.eval = execOp a.eval o := Oper.semAt_plain (wideR ro) _ _ hnd
  rw [hs]
  unfold Oper.wp at h
  generalize (execOp a.eval o).run P w = res at h ⊢
  cases res with
  | ok x w' =>
    cases x with
    | value v => exact h
    | skip => exact h
    | defer d => exact h
    | enter f args => exact ⟨fun hd => by simp [wideR, Fence.wide] at hd, callsIn_wideR h⟩
    | row r args => exact ⟨fun hd => by simp [wideR, Fence.wide] at hd, fun c cs _ => let ⟨v, w', q, s⟩ := h c cs; ⟨v, w', q, stepsIn_wide.2 s⟩⟩
    | _ => exact h.elim
  | halt x w' =>
    cases x with
    | panic v => exact h
    | _ => exact h.elim
section
variable (P : Program) (E : Env) (n : Nat) (ro : Option Nat)
def WLI (ops : Array Oper) (l : List Oper) (K : Slots) (L : Res) (Q : Exit → Act → World → Prop) : Prop := ∀ a w, Agr n K a → Sat E L w → wpListIn (wideR ro) 0 P ops Q l a w
def WI (c : Code) (K : Slots) (L : Res) (Q : Exit → Act → World → Prop) : Prop := ∀ a w, Agr n K a → Sat E L w → c.wpIn (wideR ro) 0 P Q a w
end
section
variable {P : Program} {E : Env} {n : Nat} {ro : Option Nat} {K : Slots} {L : Res} {Q : Exit → Act → World → Prop} {ops : Array Oper} {o : Oper} {rest : List Oper} {c : Code}
theorem WLI_nil (h : X E n Q .normal K L) : WLI P E n ro ops [] K L Q := h
theorem WLI_cons {d : Nat} (hnd : ∀ c, o.op ≠ .defer c) (hg : o.guard = none) (hd : o.dst = some d) (hn : d < n) (h : OpT P E n o K L (fun v L' => WLI P E n ro ops rest ((d, v) :: K) L' Q)) : WLI P E n ro ops (o :: rest) K L Q :=
  fun a w hA hS => wpListIn_plain hg fun Kc hK => wpIn_of_wp hnd (h a w Kc Q hA hS fun v L' w' hC hS' => hK _ _ (by rw [hd]; exact hC _ _ (hA.put hn v) hS'))
theorem WLI_cons0 (hnd : ∀ c, o.op ≠ .defer c) (hg : o.guard = none) (hd : o.dst = none) (h : OpT P E n o K L (fun _ L' => WLI P E n ro ops rest K L' Q)) : WLI P E n ro ops (o :: rest) K L Q :=
  fun a w hA hS => wpListIn_plain hg fun Kc hK => wpIn_of_wp hnd (h a w Kc Q hA hS fun v L' w' hC hS' => hK _ _ (by rw [hd]; exact hC _ _ hA hS'))
theorem WI_region {id : Nat} (h : WLI P E n ro ops ops.toList K L Q) : WI P E n ro (.region id ops false) K L Q := fun a w hA hS => wpIn_region_list (h a w hA hS)
theorem WI_regL {id : Nat} {l : List Oper} (h : WLI P E n ro l.toArray l K L Q) : WI P E n ro (.region id l.toArray false) K L Q := fun a w hA hS => wpIn_region_lit (h a w hA hS)
theorem WLI_fact {r : Nat} {Pr : HP} {φ : Prop} {l : List Oper} (hr : look L r = some Pr) (hp : ∀ h, Pr h → φ) (k : φ → WLI P E n ro ops l K L Q) : WLI P E n ro ops l K L Q := fun a w hA hS => k (hS.get hr hp) a w hA hS
theorem WI_open {α : Type} {φ : α → Prop} {Ps : α → List HP} (r b : Nat) {Pr : HP} (hr : look L r = some Pr) (hp : ∀ h, Pr h → ∃ x, φ x ∧ starL (Ps x) h) (k : ∀ x, φ x → WI P E n ro c K (En b (Ps x) ++ (r, emp) :: L) Q) : WI P E n ro c K L Q := fun a w hA hS => by
  obtain ⟨x, hS2⟩ := hS.ex hr (Q := fun x h => φ x ∧ starL (Ps x) h) hp
  have hx := hS2.get (look_same _ _ _) fun h hp => hp.1
  have hS3 := hS2.split (b := b) (Ps := Ps x) (look_same _ _ _) fun h hp => hp.2
  refine k x hx a w hA (hS3.sub fun r' P' h => ?_)
  rw [look_append] at h ⊢
  cases hl : look (En b (Ps x)) r' with
  | some X => rw [hl] at h; exact h
  | none =>
    rw [hl] at h
    simp only [Option.none_or] at h ⊢
    by_cases hrr : r = r'
    · subst hrr; rw [look_same] at h ⊢; exact h
    · rw [look_other hrr] at h; rw [look_other hrr, look_other hrr]; exact h
theorem WI_block {id : Nat} (h : WI P E n ro c K L (Exit.inBlock id Q)) : WI P E n ro (.block id c) K L Q := fun a w hA hS => wpIn_block (h a w hA hS)
theorem W_of_WI (h : WI P E n none c K L Q) : W P E n c K L Q := fun a w hA hS => wpIn_wide.1 (h a w hA hS)
/-- What a round of a loop l is promised: it takes the loop's things from what has come to what has come and one more. -/
def RoundS (P : Program) {α : Type} (l : Nat) (enc : α → Value) (G : List α → HP) (N : Nat) : Prop :=
  ∀ (E : Env) (F : HP) (pre : List α) (x : α) (w : World), pre.length < N → Sat E (En 0 [F, G pre]) w → YieldAt Fence.wide 0 P l #[enc x] w fun e w' => e = .returned (.bool true) ∧ Sat E (En 0 [F, G (pre ++ [x])]) w'
/-- The call of yield. -/
theorem WLI_yield {α : Type} {l d N : Nat} {enc : α → Value} {G : List α → HP} (hround : RoundS P l enc G N) {pre : List α} {x : α} {X Y : Operand} {ts : Array TypeId} (hlen : pre.length < N)
    (hop : o.op = .call { callee := .value X, args := #[Y], argTypes := ts }) (hX : evK K X = some (.func (.yield l) #[] #[])) (hY : evK K Y = some (enc x)) (hg : o.guard = none) (hd : o.dst = some d) (hn : d < n)
    (J : List Nat) {Js : List HP} (r b : Nat) (hJ : lookL L J = some Js) (hr : look L r = some (G pre)) (hnd : (J ++ [r]).Nodup) (hb : ∀ j ∈ J, j < b)
    (k : WLI P E n none ops rest ((d, .bool true) :: K) (En b [G (pre ++ [x])] ++ zipR J Js) Q) : WLI P E n none ops (o :: rest) K L Q := fun a w hA hS => wpListIn_plain hg fun Kc hK => by
  have hS2 := hS.pack (.of hJ) (C := [r]) (Cs := [G pre]) ⟨hr, trivial⟩ hnd
  obtain ⟨fn, tmps, assign, body, hy, hR⟩ := hround E (starL Js) pre x w hlen hS2
  refine ⟨fun _ _ => trivial, ?_⟩
  have hs : o.semAt (wideR none).round a.eval = execOp a.eval o := rfl
  have hrun : (execOp a.eval o).run P w = .ok (.round l fn tmps assign body) w := by
    simp [execOp, hop, resolve, hA.eval hX, hA.eval hY, invoke, Deferred.ofValue, Result.andThen, hy]
  rw [hs, hrun]
  refine ⟨fun hd => by simp [wideR, Fence.wide] at hd, RoundIn.mono hR ?_⟩
  rintro e w' ⟨rfl, hS'⟩
  refine hK _ _ ?_
  rw [hd]
  exact k _ _ (hA.put hn _) (hS'.unpack b (by rw [List.nodup_append] at hnd; exact hnd.1) hb)
end
/-- One object. -/
def objP (g : Nat) (o : Obj) : HP := fun h => h g = some o
theorem Sat.obj {E : Env} {L : Res} {w : World} {r g : Nat} {o : Obj} (hS : Sat E L w) (hr : look L r = some (objP g o)) : w.heap[g]? = some o := by
  obtain ⟨h, q1, q2⟩ := hS.read hr
  exact q2 _ _ q1
theorem Sat.put {E : Env} {L : Res} {w : World} {r g : Nat} {o : Obj} (hS : Sat E L w) (hr : look L r = some (objP g o)) (o' : Obj) : Sat E ((r, objP g o') :: L) (w.putObj g o') :=
  hS.step hr fun h hp hin => by
    have hlt := lt_of_heap (hin _ _ hp)
    refine ⟨[g], single g o', by simp [show h g = some o from hp], ⟨rfl, rfl, rfl, by simp [World.putObj], fun k hk hm => World.putObj_heap_other (by simpa using hm)⟩, single_same _ _, single_in (World.putObj_heap_same hlt), fun q hq => .inl ?_⟩
    rw [single_dom hq, show h g = some o from hp]; rfl
theorem Sat.newObj {E : Env} {L : Res} {w : World} (hS : Sat E L w) (r : Nat) (o : Obj) : Sat E ((r, objP w.heap.size o) :: L) (w.alloc o) :=
  hS.new r ⟨rfl, rfl, rfl, by simp, fun k hk _ => heap_alloc_old w _ hk⟩ (single w.heap.size o) (single_same _ _) (single_in (heap_alloc_new w o)) (fun q hq => by rw [single_dom hq]; exact Nat.le_refl _)
theorem LookAll.same {L L' : Res} : ∀ {J : List Nat} {Js : List HP}, LookAll L J Js → (∀ j ∈ J, look L' j = look L j) → LookAll L' J Js
  | [], [], _, _ => trivial
  | [], _ :: _, h, _ => h
  | _ :: _, [], h, _ => h
  | j :: J, P :: Js, h, hs => ⟨(hs j (by simp)).trans h.1, h.2.same fun j' hj => hs j' (by simp [hj])⟩
theorem LookAll.append {L : Res} : ∀ {J J' : List Nat} {Js Js' : List HP}, LookAll L J Js → LookAll L J' Js' → LookAll L (J ++ J') (Js ++ Js')
  | [], _, [], _, _, h => h
  | [], _, _ :: _, _, h, _ => h.elim
  | _ :: _, _, [], _, h, _ => h.elim
  | j :: J, _, P :: Js, _, h, h' => ⟨h.1, h.2.append h'⟩
/-- Slots known, with deferred calls. -/
def AgrD (ds : List Deferred) (n : Nat) (K : Slots) (a : Act) : Prop := a.defers = ds ∧ a.tmps.size = n ∧ ∀ k v, look K k = some v → a.tmps[k]? = some v
theorem AgrD.clear {ds : List Deferred} {n : Nat} {K : Slots} {a : Act} (h : AgrD ds n K a) : Agr n K { a with defers := [] } := ⟨rfl, h.2.1, h.2.2⟩
theorem AgrD.put {ds : List Deferred} {n : Nat} {K : Slots} {a : Act} (h : AgrD ds n K a) {d : Nat} (hd : d < n) (v : Value) : AgrD ds n ((d, v) :: K) (a.put (some d) v) := by
  have := h.clear.put hd v
  exact ⟨h.1, this.2.1, this.2.2⟩
section
variable (P : Program) (E : Env) (n : Nat) (ds : List Deferred)
def WD (c : Code) (K : Slots) (L : Res) (Q : Exit → Act → World → Prop) : Prop := ∀ a w, AgrD ds n K a → Sat E L w → Code.wp P c Q a w
def WLD (ops : Array Oper) (l : List Oper) (K : Slots) (L : Res) (Q : Exit → Act → World → Prop) : Prop := ∀ a w, AgrD ds n K a → Sat E L w → wpList P ops Q l a w
def XD (Q : Exit → Act → World → Prop) (e : Exit) (K : Slots) (L : Res) : Prop := ∀ a w, AgrD ds n K a → Sat E L w → Q e a w
end
section
variable {P : Program} {E : Env} {n : Nat} {ds : List Deferred} {K K' : Slots} {L L' : Res} {Q : Exit → Act → World → Prop} {ops : Array Oper} {o : Oper} {rest : List Oper} {c x y : Code}
theorem WD_seq (h : WD P E n ds x K L (Exit.then (y.wp P Q) Q)) : WD P E n ds (.seq x y) K L Q := fun a w hA hS => wp_seq (h a w hA hS)
theorem XD_then (h : WD P E n ds y K L Q) : XD E n ds (Exit.then (y.wp P Q) Q) .normal K L := h
theorem XD_block {id : Nat} (h : XD E n ds Q .normal K L) : XD E n ds (Exit.inBlock id Q) .normal K L := h
theorem WD_ret (h : XD E n ds Q .ret K L) : WD P E n ds .ret K L Q := fun a w hA hS => wp_ret (h a w hA hS)
theorem WD_region {id : Nat} (h : WLD P E n ds ops ops.toList K L Q) : WD P E n ds (.region id ops false) K L Q := fun a w hA hS => wp_region_list (h a w hA hS)
theorem WD_regL {id : Nat} {l : List Oper} (h : WLD P E n ds l.toArray l K L Q) : WD P E n ds (.region id l.toArray false) K L Q := fun a w hA hS => wp_region_lit (h a w hA hS)
theorem WLD_nil (h : XD E n ds Q .normal K L) : WLD P E n ds ops [] K L Q := h
theorem WLD_pure {d : Nat} {v : Value} (hg : o.guard = none) (hd : o.dst = some d) (hn : d < n) (h : Pure P E n o K L v) (k : WLD P E n ds ops rest ((d, v) :: K) L Q) : WLD P E n ds ops (o :: rest) K L Q :=
  fun a w hA hS => wpList_plain hg fun Kc hK => by
    have hev : ({ a with defers := [] } : Act).eval = a.eval := by funext x; cases x <;> rfl
    have hrun : (execOp a.eval o).run P w = .ok (.value v) w := by rw [← hev]; exact h { a with defers := [] } w hA.clear hS
    unfold Oper.wp
    rw [hrun]
    exact hK _ _ (by rw [hd]; exact k _ _ (hA.put hn v) hS)
theorem WD.pre (h : WD P E n ds c K' L' Q) (hK : AllIn K K') (hL : AllIn L L') : WD P E n ds c K L Q := fun a w hA hS => h a w ⟨hA.1, hA.2.1, fun k v hk => hA.2.2 k v (hK.look k v hk)⟩ (hS.sub hL.look)
end
theorem WD_open {P : Program} {E : Env} {n : Nat} {ds : List Deferred} {K : Slots} {L : Res} {Q : Exit → Act → World → Prop} {c : Code} {α : Type} {φ : α → Prop} {Ps : α → List HP} (r b : Nat) {Pr : HP} (hr : look L r = some Pr) (hp : ∀ h, Pr h → ∃ x, φ x ∧ starL (Ps x) h) (k : ∀ x, φ x → WD P E n ds c K (En b (Ps x) ++ (r, emp) :: L) Q) : WD P E n ds c K L Q := fun a w hA hS => by
  obtain ⟨x, hS2⟩ := hS.ex hr (Q := fun x h => φ x ∧ starL (Ps x) h) hp
  have hx := hS2.get (look_same _ _ _) fun h hp => hp.1
  have hS3 := hS2.split (b := b) (Ps := Ps x) (look_same _ _ _) fun h hp => hp.2
  refine k x hx a w hA (hS3.sub fun r' P' h => ?_)
  rw [look_append] at h ⊢
  cases hl : look (En b (Ps x)) r' with
  | some X => rw [hl] at h; exact h
  | none =>
    rw [hl] at h
    simp only [Option.none_or] at h ⊢
    by_cases hrr : r = r'
    · subst hrr; rw [look_same] at h ⊢; exact h
    · rw [look_other hrr] at h; rw [look_other hrr, look_other hrr]; exact h
theorem res1D {P : Program} {E : Env} {n : Nat} {ds : List Deferred} {K : Slots} {L : Res} {fn : Func} {t D : Nat} {v : Value} (hr : fn.results = #[.tmp t]) (hv : look K t = some v) : ∀ a w, AgrD ds n K a → Sat E L w → (results fn a.tmps).run P (w.putObj D (.deferred none)) = .ok v (w.putObj D (.deferred none)) := fun a w hA _ => by
  simp [results, hr, hA.2.2 t v hv]
theorem W_open {P : Program} {E : Env} {n : Nat} {K : Slots} {L : Res} {Q : Exit → Act → World → Prop} {c : Code} {α : Type} {φ : α → Prop} {Ps : α → List HP} (r b : Nat) {Pr : HP} (hr : look L r = some Pr) (hp : ∀ h, Pr h → ∃ x, φ x ∧ starL (Ps x) h) (k : ∀ x, φ x → W P E n c K (En b (Ps x) ++ (r, emp) :: L) Q) : W P E n c K L Q := fun a w hA hS => by
  obtain ⟨x, hS2⟩ := hS.ex hr (Q := fun x h => φ x ∧ starL (Ps x) h) hp
  have hx := hS2.get (look_same _ _ _) fun h hp => hp.1
  have hS3 := hS2.split (b := b) (Ps := Ps x) (look_same _ _ _) fun h hp => hp.2
  refine k x hx a w hA (hS3.sub fun r' P' h => ?_)
  rw [look_append] at h ⊢
  cases hl : look (En b (Ps x)) r' with
  | some X => rw [hl] at h; exact h
  | none =>
    rw [hl] at h
    simp only [Option.none_or] at h ⊢
    by_cases hrr : r = r'
    · subst hrr; rw [look_same] at h ⊢; exact h
    · rw [look_other hrr] at h; rw [look_other hrr, look_other hrr]; exact h
/-- The way out of a function that holds one range over a function. -/
theorem XD_retM {P : Program} {E : Env} {n : Nat} {K : Slots} {L : Res} {fn : Func} {F : HP} {R : Value → List HP → Prop} {D r : Nat} {v : Value} {Ps : List HP} {J : List Nat}
    (hD : look L r = some (objP D (.deferred (some [])))) (hres : ∀ a w, AgrD [{ target := .collected D, args := #[] }] n K a → Sat E L w → (results fn a.tmps).run P (w.putObj D (.deferred none)) = .ok v (w.putObj D (.deferred none)))
    (hR : R v Ps) (hJ : lookL L J = some (F :: Ps)) (hn : J.Nodup) (hrJ : r ∉ J) : XD E n [{ target := .collected D, args := #[] }] (bodyPostM Fence.wide 0 P fn (Ret E F R)) .ret K L := fun a w hA hS => by
  have hd := hS.obj hD
  show LeavesInM Fence.wide 0 P fn a.tmps (Ret E F R) a.defers .returning w
  rw [hA.1]
  refine ⟨fun h => (by cases h), .inl ⟨D, _, rfl, run_takeDeferred hd, v, hres a w hA hS, v, Ps, rfl, hR, ?_⟩⟩
  exact (hS.put hD _).pick ((LookAll.of hJ).same fun j hj => look_other (fun e => hrJ (by rw [e]; exact hj)) _ _) hn
/-- What an iterator promises to any loop. -/
def SeqS (P : Program) {α : Type} (gf : FuncId) (lb : Array Value) (enc : α → Value) (N : Nat) (F : HP) (Cs : List HP) (S : List α → Prop) (Cs' : List HP) : Prop :=
  ∀ (l : Nat) (G : List α → HP), RoundS P l enc G N → CallsS P gf (#[.func (.yield l) #[] #[]] ++ lb) F (G [] :: Cs) (fun v Ps => ∃ xs, S xs ∧ Ps = G xs :: Cs')
theorem callsS_marks {P : Program} {n : Nat} {f : FuncId} {fn : Func} {c : Code} {args : Array Value} {F : HP} {Ps : List HP} {R : Value → List HP → Prop}
    (hf : P.funcs[f]? = some fn) (hb : fn.body = some c) (hn : fn.ntmps = n) (ha : args.size ≤ n)
    (h : ∀ E, W P E n c (enumK 0 args.toList) (En 0 (F :: Ps)) (bodyPostM Fence.wide 0 P fn (Ret E F R))) : CallsS P f args F Ps R := by
  intro E w hS
  refine callsIn_wide.1 (callsIn_of_wp_marks (n := 0) hf hb trivial (wpIn_wide.2 (h E _ w ⟨rfl, by simp [hn]; omega, fun k v hk => ?_⟩ hS)))
  obtain ⟨_, h2⟩ := look_enumK _ _ _ _ hk
  have hlt : k < args.size := by simpa using (List.getElem?_eq_some_iff.1 h2).1
  rw [Array.getElem?_append_left hlt]
  simpa using h2
section
variable {P : Program} {E : Env} {n : Nat} {K : Slots} {L : Res} {Q : Exit → Act → World → Prop}
theorem W_rangeFunc {α Y : Type} {g : Operand} {p gf N : Nat} {lb : Array Value} {assign body : Code} {enc : α → Value} {G : List α → HP} {S : List α → Prop} {Cs Cs' : List HP}
    (hg : evK K g = some (.func (.func gf) #[] lb)) (hp : p < n) (eg : ∀ args w, (callFunc gf args).run P w = .ok (.enter gf args) w)
    (J : List Nat) {Js : List HP} (r0 : Nat) (J2 : List Nat) (b : Nat) (hJ : lookL L J = some Js) (hr0 : look L r0 = some (G [])) (hJ2 : lookL L J2 = some Cs) (hnd : (J ++ r0 :: J2).Nodup) (hb : ∀ j ∈ J ++ r0 :: J2, j < b)
    (hseq : ∀ F, SeqS P gf lb enc N F Cs S Cs')
    (Km : α → Y → Slots) (Lm : HP → HP → List α → α → Y → Res) (hLm : ∀ F LP pre x y, look (Lm F LP pre x y) 2 = some LP)
    (hassign : ∀ E' F l LP pre x, pre.length < N → WI P E' n (some l) assign ((p, enc x) :: K) (En 0 [F, G pre, LP]) (Exit.then (fun a w => ∃ y, Agr n (Km x y) a ∧ Sat E' (Lm F LP pre x y) w) (fun _ _ _ => False)))
    (hbody : ∀ E' F l LP LP' pre x y, pre.length < N → WI P E' n (some l) body (Km x y) ((2, LP') :: Lm F LP pre x y) (fun e _ w => e = .normal ∧ Sat E' (En 0 [F, G (pre ++ [x]), LP']) w))
    (k : ∀ D xs Lp Lp', S xs → XD E n [{ target := .collected D, args := #[] }] Q .normal K ((b + 31, Lp') :: (En (b + 30) [G xs, Lp] ++ (b + 10, emp) :: (En (b + 10) (starL [G xs, Lp] :: Cs') ++ zipR (J ++ [b]) (Js ++ [objP D (.deferred (some []))]))))) :
    W P E n (.rangeFunc g #[p] assign body) K L Q := by
  intro a w hA hS
  refine (wpIn_wide (n := 0)).1 (wpIn_rangeFunc ?_)
  intro fn _
  obtain ⟨rec, hrec⟩ : ∃ rec : LoopState → Option Code → Loop, rec = fun st pe => { state := st, pending := pe, fn, tmps := a.tmps, params := #[p], assign, body, defers := w.heap.size } := ⟨_, rfl⟩
  have hS2 : Sat E ((b + 1, objP (w.heap.size + 1) (.loop (rec .ready none))) :: (b, objP w.heap.size (.deferred (some []))) :: L) ((w.alloc (.deferred (some []))).alloc (.loop (rec .ready none))) := by
    have h1 := (hS.newObj b (.deferred (some []))).newObj (b + 1) (.loop (rec .ready none))
    rw [World.size_alloc] at h1
    exact h1
  have hround : RoundS P (w.heap.size + 1) enc (fun pre => starL [G pre, objP (w.heap.size + 1) (.loop (rec .ready none))]) N := by
    intro E' F pre x w1 hlen hS3
    have hS4 := (hS3.split (r := 1) (b := 2) (Ps := [G pre, objP (w.heap.size + 1) (.loop (rec .ready none))]) rfl (fun h hh => hh)).pick (ids := [0, 2, 3]) (Ps := [F, G pre, objP (w.heap.size + 1) (.loop (rec .ready none))]) ⟨rfl, rfl, rfl, trivial⟩ (by decide)
    have hl := hS4.obj (r := 2) rfl
    have hy := run_yield (P := P) (args := #[enc x]) hl (by rw [hrec]; rfl)
    rw [hrec] at hy
    refine ⟨fn, _, assign, body, hy, roundIn_of_wpIn trivial ?_⟩
    have hag : Agr n ((p, enc x) :: K) { tmps := (#[p].zip #[enc x]).foldl (fun t (p, v) => t.setIfInBounds p v) a.tmps, defers := [] } := by
      have := hA.put hp (enc x)
      refine ⟨rfl, by simpa using hA.2.1, fun k v hk => ?_⟩
      simpa [Act.put] using this.2.2 k v hk
    refine wpIn_mono (hassign E' F (w.heap.size + 1) _ pre x hlen _ w1 hag hS4) ?_
    rintro e a2 w2 hq
    cases e with
    | normal =>
      obtain ⟨y, hA2, hSy⟩ := hq
      have hl2 := hSy.obj (hLm _ _ _ _ _)
      refine ⟨_, run_beginRound hl2 (by rw [hrec]), ?_⟩
      refine wpIn_mono (hbody E' F (w.heap.size + 1) _ _ pre x y hlen a2 _ hA2 (hSy.put (hLm _ _ _ _ _) _)) ?_
      rintro e3 a3 w3 ⟨rfl, hS5⟩
      have hl3 := hS5.obj (r := 2) rfl
      have her := run_endRound (P := P) none hl3
      refine ⟨_, _, her, rfl, ?_⟩
      have hS6 := hS5.put (r := 2) rfl (.loop (rec .ready none))
      have hS7 := (hS6.pack (J := [1, 2]) (Js := [G (pre ++ [x]), objP (w.heap.size + 1) (.loop (rec .ready none))]) (C := [0]) (Cs := [F]) ⟨rfl, rfl, trivial⟩ ⟨rfl, trivial⟩ (by decide)).pick (ids := [1, 0]) (Ps := [F, starL [G (pre ++ [x]), objP (w.heap.size + 1) (.loop (rec .ready none))]]) ⟨rfl, rfl, trivial⟩ (by decide)
      rw [hrec] at hS7 ⊢
      exact hS7
    | ret => exact hq.elim
    | exit id => exact hq.elim
    | goto t => exact hq.elim
    | panic ch => exact hq.elim
    | outgrown => exact hq.elim
  have hneb : ∀ j ∈ J ++ r0 :: J2, j ≠ b + 1 ∧ j ≠ b + 2 ∧ j ≠ b := fun j hj => by have := hb j hj; omega
  have hr0b := hb r0 (by simp)
  have hS8 := hS2.join (b + 2) (J := [r0, b + 1]) (Js := [G [], objP (w.heap.size + 1) (.loop (rec .ready none))]) (P' := starL [G [], objP (w.heap.size + 1) (.loop (rec .ready none))])
    ⟨by rw [look_other (by omega), look_other (by omega)]; exact hr0, look_same _ _ _, trivial⟩ (by simp; omega) (fun h hh => hh)
  have hfar : ∀ j, j ∈ J ∨ j ∈ J2 → look ((b + 2, starL [G [], objP (w.heap.size + 1) (.loop (rec .ready none))]) :: ([r0, b + 1].map (·, emp) ++ (b + 1, objP (w.heap.size + 1) (.loop (rec .ready none))) :: (b, objP w.heap.size (.deferred (some []))) :: L)) j = look L j := by
    intro j hj
    have h1 := hneb j (by rcases hj with hj | hj <;> simp [hj])
    have h2 : r0 ≠ j := by
      rintro rfl
      rw [List.nodup_append] at hnd
      rcases hj with hj | hj
      · exact hnd.2.2 r0 hj r0 (by simp) rfl
      · exact (List.nodup_cons.1 hnd.2.1).1 hj
    simp only [List.map_cons, List.map_nil, List.cons_append, List.nil_append]
    rw [look_other (by omega), look_other h2, look_other (by omega), look_other (by omega), look_other (by omega)]
  have hnd2 : (J ++ [b] ++ (b + 2) :: J2).Nodup := by
    simp only [List.append_assoc, List.cons_append, List.nil_append]
    rw [List.nodup_append] at hnd ⊢
    obtain ⟨n1, n2, n3⟩ := hnd
    refine ⟨n1, ?_, fun x hx y hy hxy => ?_⟩
    · simp only [List.nodup_cons, List.mem_cons, not_or]
      refine ⟨⟨by omega, fun h => ?_⟩, fun h => ?_, (List.nodup_cons.1 n2).2⟩
      · exact (hneb b (by simp [h])).2.2 rfl
      · exact (hneb (b + 2) (by simp [h])).2.1 rfl
    · subst hxy
      rcases List.mem_cons.1 hy with h | hy
      · exact (hneb x (by simp [hx])).2.2 h
      · rcases List.mem_cons.1 hy with h | hy
        · exact (hneb x (by simp [hx])).2.1 h
        · exact n3 x hx x (by simp [hy]) rfl
  have hJb : LookAll ((b + 2, starL [G [], objP (w.heap.size + 1) (.loop (rec .ready none))]) :: ([r0, b + 1].map (·, emp) ++ (b + 1, objP (w.heap.size + 1) (.loop (rec .ready none))) :: (b, objP w.heap.size (.deferred (some []))) :: L)) (J ++ [b]) (Js ++ [objP w.heap.size (.deferred (some []))]) :=
    LookAll.append ((LookAll.of hJ).same fun j hj => hfar j (.inl hj)) ⟨by
      simp only [List.map_cons, List.map_nil, List.cons_append, List.nil_append]
      rw [look_other (by omega), look_other (by omega), look_other (by omega), look_other (by omega), look_same], trivial⟩
  have hS9 := hS8.pack hJb (C := (b + 2) :: J2) (Cs := starL [G [], objP (w.heap.size + 1) (.loop (rec .ready none))] :: Cs) ⟨look_same _ _ _, (LookAll.of hJ2).same fun j hj => hfar j (.inr hj)⟩ hnd2
  have hent : (Instr.enterLoop fn a.tmps #[p] assign body none).run P w = .ok (w.heap.size + 1, [{ target := .collected w.heap.size, args := #[] }]) ((w.alloc (.deferred (some []))).alloc (.loop (rec .ready none))) := by rw [hrec]; exact run_enterLoop_outer _ _ _ _ _
  refine ⟨w.heap.size + 1, [{ target := .collected w.heap.size, args := #[] }], (w.alloc (.deferred (some []))).alloc (.loop (rec .ready none)), { target := .fn (.func gf) lb, args := #[.func (.yield (w.heap.size + 1)) #[] #[]] }, (w.alloc (.deferred (some []))).alloc (.loop (rec .ready none)), gf, #[.func (.yield (w.heap.size + 1)) #[] #[]] ++ lb, (w.alloc (.deferred (some []))).alloc (.loop (rec .ready none)), hent, ?_, fun _ _ => trivial, ?_, fun h => by simp [Fence.wide] at h, ?_⟩
  · simp only [resolve, hA.eval hg]
    simp [Act.eval, Deferred.ofValue]
  · simp [invoke, eg]
  · have hcall := hseq _ (w.heap.size + 1) _ hround E _ hS9
    refine (callsIn_wide.2 hcall).mono ?_
    rintro e w3 ⟨v, Ps, rfl, ⟨xs, hxs, rfl⟩, hS10⟩
    have hndJ : (J ++ [b]).Nodup := by rw [List.nodup_append] at hnd2; exact hnd2.1
    have hS11 := hS10.unpack (b + 10) hndJ (fun j hj => by
      rcases List.mem_append.1 hj with hj | hj
      · have := hb j (by simp [hj]); omega
      · simp at hj; omega)
    have hS12 := hS11.split (r := b + 10) (b := b + 30) (Ps := [G xs, objP (w.heap.size + 1) (.loop (rec .ready none))]) (by simp [En, look]) (fun h hh => hh)
    have hlk : look (En (b + 30) [G xs, objP (w.heap.size + 1) (.loop (rec .ready none))] ++ (b + 10, emp) :: (En (b + 10) (starL [G xs, objP (w.heap.size + 1) (.loop (rec .ready none))] :: Cs') ++ zipR (J ++ [b]) (Js ++ [objP w.heap.size (.deferred (some []))]))) (b + 31) = some (objP (w.heap.size + 1) (.loop (rec .ready none))) := by
      rw [look_append, show b + 31 = (b + 30) + 1 from rfl, look_En _ (b + 30) 1]
      rfl
    have hl := hS12.obj hlk
    refine ⟨_, _, run_endLoop hl (by rw [hrec]; simp), ?_⟩
    rw [show (rec .ready none).pending = none by rw [hrec]]
    have hA' : AgrD [{ target := .collected w.heap.size, args := #[] }] n K { a with defers := [{ target := .collected w.heap.size, args := #[] }] ++ a.defers } := ⟨by simp [hA.1], hA.2.1, hA.2.2⟩
    exact k w.heap.size xs _ _ hxs _ _ hA' (hS12.put hlk _)
end
end Go.Proofs.Ytjopgnkffhfhkaa
/- Areas: the values of a map, one by one. -/
namespace Go.Proofs.Ytjopgnkffhfhkaa
open Go.RowKit
set_option linter.unusedVariables false
set_option linter.unusedSimpArgs false

def encB (b : BV) : Value := .agg (bvC b).toArray
def mbs (l : List BV) : List (List UInt8 × Value) := l.map fun b => (b.key, encB b)
abbrev ok32 (k : List UInt8) : Prop := k.length = 32
abbrev mapB (g : Nat) (es : List (List UInt8 × Value)) (it : Option (It (List UInt8))) : HP := mapQ idV ok32 g es it
theorem keyB : KeyT Try.prog 36 idV ok32 := keyT_id Try.underlying36 Try.underlying5 Try.sizeOf5
theorem mbs_pick {l2 : List BV} {left left' : List (List UInt8 × Value)} {p : List UInt8 × Value} (h1 : left.Perm (mbs l2)) (h2 : left.Perm (p :: left')) : ∃ b l3, p = (b.key, encB b) ∧ l2.Perm (b :: l3) ∧ left'.Perm (mbs l3) := by
  have hm : p ∈ mbs l2 := (h2.symm.trans h1).mem_iff.1 (by simp)
  obtain ⟨b, hb, rfl⟩ := List.mem_map.1 hm
  obtain ⟨a, c, rfl⟩ := List.append_of_mem hb
  refine ⟨b, a ++ c, rfl, List.perm_middle, ?_⟩
  have h3 : (mbs (a ++ b :: c)).Perm ((b.key, encB b) :: mbs (a ++ c)) := by
    unfold mbs
    exact List.Perm.map _ List.perm_middle
  exact (h2.symm.trans (h1.trans h3)).cons_inv
theorem mbs_nil {l2 : List BV} (h : ([] : List (List UInt8 × Value)).Perm (mbs l2)) : l2 = [] := by
  have := h.length_eq
  simp only [mbs, List.length_nil, List.length_map] at this
  exact List.length_eq_zero_iff.1 this.symm
theorem values_seq (bx g : Nat) (l : List BV) (F : HP) : SeqS Try.prog 36 #[.pointer (some ⟨bx, 0, none⟩)] encB l.length F [mapB g (mbs l) none, blk bx 58 [.map (some g)]] (fun xs => xs.Perm l) [mapB g (mbs l) none, blk bx 58 [.map (some g)]] := by
  intro ln G hround
  refine callsS_enter Try.func36 rfl Try.ntmps36 (by simp) (fun E => ?_)
  refine W_seq ?_
  refine W.pre (K' := [(0, _), (1, _)]) (L' := [(0, _), (1, _), (2, _), (3, _)]) ?_ ⟨rfl, ⟨rfl, trivial⟩⟩ ⟨rfl, ⟨rfl, ⟨rfl, ⟨rfl, trivial⟩⟩⟩⟩
  refine W_regL (WL_pure rfl rfl (by decide) (Pu_loadB (r := 3) rfl Try.isAgg58 rfl rfl rfl) (WL_cons rfl rfl (by decide) (OpT_rangeQ (r := 2) rfl Try.underlying58 rfl rfl (fun it => (WL_nil (X_then ?_))))))
  refine W_block ?_
  refine W_loop (α := List BV × List BV × List (List UInt8 × Value)) (fun x => [(0, .func (.yield ln) #[] #[]), (6, .pointer (some ⟨it, 0, none⟩))]) (fun x => [(0, F), (1, G x.1), (2, mapB g (mbs l) (some (it, x.2.2, none))), (3, blk bx 58 [.map (some g)])]) (fun x => (x.1 ++ x.2.1).Perm l ∧ x.2.2.Perm (mbs x.2.1)) (fun x => x.2.1.length) (([], l, mbs l)) ⟨List.Perm.refl _, List.Perm.refl _⟩ ⟨rfl, ⟨rfl, trivial⟩⟩ ⟨rfl, ⟨rfl, ⟨rfl, ⟨rfl, trivial⟩⟩⟩⟩ (fun x hx => ?_)
  obtain ⟨hx1, hx2⟩ := hx
  refine W_seq ?_
  refine W.pre (K' := [(0, _), (6, _)]) (L' := [(0, _), (1, _), (2, _), (3, _)]) ?_ ⟨rfl, ⟨rfl, trivial⟩⟩ ⟨rfl, ⟨rfl, ⟨rfl, ⟨rfl, trivial⟩⟩⟩⟩
  refine W_regL (WL_cons rfl rfl (by decide) (OpT_nextQ (r := 2) keyB rfl rfl rfl (fun hnil => ?_) (fun p left hpe hpm => ?_)))
  ·
    rw [hnil] at hx2
    have hl2 := mbs_nil hx2
    rw [hl2, List.append_nil] at hx1
    refine (WL_pure rfl rfl (by decide) (Pu_extract rfl rfl rfl) (WL_nil (X_then ?_)))
    refine W_seq ?_
    refine W_false rfl (rfl) ?_
    refine W_exit (X_then_exit (X_then_exit (X_block_exit ?_)))
    refine X_turn 2 rfl (fun h hp => mapQ_none hp) ?_
    exact X_end [1, 2, 3] (Ps := [_, _, _]) (res0 Try.results36) rfl (by decide) ⟨x.1, hx1, rfl⟩
  ·
    obtain ⟨b, l3, rfl, hb2, hb3⟩ := mbs_pick hx2 hpm
    have hlen : x.1.length < l.length := by have h1 := hx1.length_eq; have h2 := hb2.length_eq; simp at h1 h2; omega
    refine (WL_pure rfl rfl (by decide) (Pu_extract rfl rfl rfl) (WL_nil (X_then ?_)))
    refine W_seq ?_
    refine W_true rfl (rfl) ?_
    refine W_skip (X_then ?_)
    refine W_block ?_
    refine W_seq ?_
    refine W.pre (K' := [(0, _), (6, _), (8, _)]) (L' := [(0, _), (1, _), (2, _), (3, _)]) ?_ ⟨rfl, ⟨rfl, ⟨rfl, trivial⟩⟩⟩ ⟨rfl, ⟨rfl, ⟨rfl, ⟨rfl, trivial⟩⟩⟩⟩
    refine W_regL (WL_pure rfl rfl (by decide) (Pu_entryQ (r := 2) rfl rfl rfl) (WL_pure rfl rfl (by decide) (Pu_extract rfl rfl rfl) (WL_cons rfl rfl (by decide) (OpT_alloc (r := 101) rfl (zero_run (by kernel_rfl : (Try.prog.info? 40).bind (·.zero) = some (.agg (bkC zeroId (.slice none 0 0) 0 0).toArray))) rfl (fun g101 => (WL_cons0 rfl rfl (OpT_storeAll (r := 101) rfl Try.sizeOf40 rfl rfl rfl (bkC_length rfl) (bvC_length b) (bvC_one _) ?_)))))))
    refine (WL_nil (X_then ?_))
    refine W_seq ?_
    refine W.pre (K' := [(0, _), (4, _), (6, _), (8, _)]) (L' := [(0, _), (1, _), (2, _), (3, _), (101, _)]) ?_ ⟨rfl, ⟨rfl, ⟨rfl, ⟨rfl, trivial⟩⟩⟩⟩ ⟨rfl, ⟨rfl, ⟨rfl, ⟨rfl, ⟨rfl, trivial⟩⟩⟩⟩⟩
    refine W_of_WI (WI_regL ?_)
    refine WLI_cons (by intro c h; cases h) rfl rfl (by decide) (OpT_run (Pu_move rfl rfl) ?_)
    refine WLI_cons (by intro c h; cases h) rfl rfl (by decide) (OpT_run (Pu_loadBN (r := 101) rfl Try.isAgg40 Try.sizeOf40 rfl rfl (bvC_length b) (load_all (bvC_length b))) ?_)
    refine WLI_yield hround (pre := x.1) (x := b) hlen rfl rfl rfl rfl rfl (by decide) [0, 2, 3, 101] 1 900 rfl rfl (by decide) (by decide) ?_
    refine WLI_cons (by intro c h; cases h) rfl rfl (by decide) (OpT_run (Pu_un rfl rfl (run_not _)) ?_)
    refine WLI_nil ?_
    refine (X_then ?_)
    refine W_false rfl (rfl) ?_
    refine W_skip (X_block ?_)
    refine X_ren 900 1 rfl ?_
    refine X_turn 2 rfl (fun h hp => mapQ_uncur hp) ?_
    exact X_round (x.1 ++ [b], l3, left) ⟨by refine List.Perm.trans ?_ hx1; rw [List.append_assoc]; exact List.Perm.append_left _ hb2.symm, hb3⟩ (by have := hb2.length_eq; simp at this; dsimp only; omega) ⟨rfl, rfl, trivial⟩ ⟨rfl, rfl, rfl, rfl, trivial⟩
end Go.Proofs.Ytjopgnkffhfhkaa
/- Areas: the values of a map, collected and sorted. -/
namespace Go.Proofs.Ytjopgnkffhfhkaa
open Go.RowKit
set_option linter.unusedVariables false
set_option linter.unusedSimpArgs false
abbrev BTy : TypeId := 40
abbrev rowB2 (v : Value) (xs : List BV) : HP := rowP 40 35 v xs.length (recC bvC xs)
def accP (g1 : Nat) (pre : List BV) : HP := fun h => ∃ v : Value, v.oneCell' = true ∧ starL [blk g1 32 [v], rowB2 v pre] h
theorem appendSeq_spec (bx g : Nat) (l : List BV) (hl : l.length ≤ 1000000000000) (F : HP) : CallsS Try.prog 38 #[.slice none 0 0, .func (.func 36) #[] #[.pointer (some ⟨bx, 0, none⟩)]] F [mapB g (mbs l) none, blk bx 58 [.map (some g)]]
    (fun r Ps => ∃ xs, xs.Perm l ∧ Ps = [rowB2 r xs, mapB g (mbs l) none, blk bx 58 [.map (some g)]]) := by
  refine callsS_marks Try.func38 rfl Try.ntmps38 (by simp) (fun E => ?_)
  refine W_seq ?_
  refine W_regL (WL_cons rfl rfl (by decide) (OpT_box (r := 101) rfl rfl rfl (fun g1 => (WL_pure rfl rfl (by decide) (Pu_assign rfl rfl) (WL_nil (X_then ?_))))))
  refine W_nilRow 102 40 35 ?_
  refine W_join [101, 102] 103 (accP g1 []) rfl (by decide) (fun h hs => ⟨.slice none 0 0, rfl, hs⟩) ?_
  refine W_seq ?_
  refine W_seq ?_
  refine W.pre (K' := [(1, _), (2, _)]) (L' := [(0, _), (1, _), (2, _), (103, _)]) ?_ ⟨rfl, rfl, trivial⟩ ⟨rfl, rfl, rfl, rfl, trivial⟩
  refine W_regL (WL_pure rfl rfl (by decide) (Pu_move rfl rfl) (WL_nil (X_then ?_)))
  refine W_block ?_
  refine W_rangeFunc (α := BV) (Y := Nat) (enc := encB) (G := accP g1) (N := l.length) (S := fun xs => xs.Perm l) (Cs' := [mapB g (mbs l) none, blk bx 58 [.map (some g)]]) rfl (by decide) Try.call36 [0] 103 [1, 2] 200 rfl rfl rfl (by decide) (by decide) (fun F => values_seq bx g l F)
    (fun x y => [(2, .pointer (some ⟨g1, 0, none⟩)), (5, .pointer (some ⟨y, 0, none⟩))]) (fun F LP pre x y => [(0, F), (1, accP g1 pre), (2, LP), (110, blk y 40 (bvC x))]) (fun _ _ _ _ _ => rfl) ?_ ?_ ?_
  · intro E' F l' LP pre x hlen
    refine WI_regL ?_
    refine WLI_cons (by intro c h; cases h) rfl rfl (by decide) (OpT_alloc (r := 110) (cs := bkC zeroId (.slice none 0 0) 0 0) rfl (zero_run (by kernel_rfl : (Try.prog.info? 40).bind (·.zero) = some (.agg (bkC zeroId (.slice none 0 0) 0 0).toArray))) rfl (fun g5 => ?_))
    refine WLI_cons0 (by intro c h; cases h) rfl rfl (OpT_storeAll (r := 110) rfl Try.sizeOf40 rfl rfl rfl (bkC_length rfl) (bvC_length x) (bvC_one x) ?_)
    refine WLI_nil (fun a w hA hS => ⟨g5, ?_, ?_⟩)
    · exact hA.sub (AllIn.look ⟨rfl, rfl, trivial⟩)
    · exact hS.sub (AllIn.look ⟨rfl, rfl, rfl, rfl, trivial⟩)
  · intro E' F l' LP LP' pre x y hlen
    refine WI_open 1 120 rfl (fun h hp => hp) (fun v hv => ?_)
    refine WI_block (WI_regL ?_)
    refine WLI_cons (by intro c h; cases h) rfl rfl (by decide) (OpT_run (Pu_loadB (r := 120) rfl Try.isAgg32 rfl rfl rfl) ?_)
    refine WLI_cons (by intro c h; cases h) rfl rfl (by decide) (OpT_run (Pu_loadBN (r := 110) rfl Try.isAgg40 Try.sizeOf40 rfl rfl (bvC_length x) (load_all (bvC_length x))) ?_)
    refine WLI_cons (by intro c h; cases h) rfl rfl (by decide) (OpT_buildRows (r := 130) [bvC x] rfl rfl Try.runUnderlying32 Try.sizeOf40 Try.zeroValue40 rfl (by decide) rfl (by decide) (by intro r hr; simp at hr; rw [hr]; exact bvC_length x) rfl (fun v10 => ?_))
    refine WLI_cons (by intro c h; cases h) rfl rfl (by decide) (OpT_append (r := 121) (r2 := 130) rfl Try.underlying32 TI.hi40 TI.hz40 TI.hs40 TI.hby40 TI.hzs40 (by decide) rfl rfl rfl rfl (fun _ h => rowP_rd h) (by intro u hu; simp at hu; exact bvC_one x u hu) (by unfold maxLen; omega) (by omega) (fun v11 => ?_))
    refine WLI_fact (r := 121) rfl (fun h hp => rd_one (rowP_rd hp)) (fun ho11 => ?_)
    refine WLI_cons0 (by intro c h; cases h) rfl rfl (OpT_storeB1 (r := 120) rfl Try.sizeOf32 rfl rfl rfl ho11 (by simp) rfl ?_)
    refine WLI_nil (fun a w hA hS => ⟨rfl, ?_⟩)
    have hS2 := hS.cons (P' := rowB2 v11 (pre ++ [x])) (r := 121) rfl (fun h hp => by
      unfold rowB2
      rw [List.length_append, recC_append, recC_one]
      simpa using hp)
    have hS3 := hS2.join 140 (J := [120, 121]) (Js := [blk g1 32 [v11], rowB2 v11 (pre ++ [x])]) ⟨rfl, rfl, trivial⟩ (by decide) (P' := accP g1 (pre ++ [x])) (fun h hs => ⟨v11, ho11, hs⟩)
    exact hS3.pick (ids := [0, 140, 2]) ⟨rfl, rfl, rfl, trivial⟩ (by decide)
  · intro D' xs Lp Lp' hxs
    refine XD_block (XD_then ?_)
    refine WD_open 230 240 rfl (fun h hp => hp) (fun v hv => ?_)
    refine WD_seq (WD_regL ?_)
    refine WLD_pure rfl rfl (by decide) (Pu_loadB (r := 240) rfl Try.isAgg32 rfl rfl rfl) ?_
    refine WLD_pure rfl rfl (by decide) (Pu_assign rfl rfl) (WLD_nil (XD_then (WD_ret ?_)))
    exact XD_retM (r := 200) (J := [0, 241, 211, 212]) (Ps := [_, _, _]) rfl (res1D (Try.results38) rfl) ⟨xs, hxs, rfl⟩ rfl (by decide) (by decide)
end Go.Proofs.Ytjopgnkffhfhkaa
/- Areas: maps.Values, slices.Collect, slices.SortedFunc. -/
namespace Go.Proofs.Ytjopgnkffhfhkaa
open Go.RowKit
set_option linter.unusedVariables false
set_option linter.unusedSimpArgs false

theorem values_spec (g : Nat) (l : List BV) (F : HP) : CallsS Try.prog 28 #[.map (some g)] F [mapB g (mbs l) none] (fun r Ps => ∃ bx, r = .func (.func 36) #[] #[.pointer (some ⟨bx, 0, none⟩)] ∧ Ps = [mapB g (mbs l) none, blk bx 58 [.map (some g)]]) := by
  refine callsS_enter Try.func28 rfl Try.ntmps28 (by simp) (fun E => ?_)
  refine W_seq ?_
  refine W.pre (K' := [(0, _)]) (L' := [(0, _), (1, _)]) ?_ ⟨rfl, trivial⟩ ⟨rfl, ⟨rfl, trivial⟩⟩
  refine W_regL (WL_cons rfl rfl (by decide) (OpT_box (r := 101) rfl rfl rfl (fun g101 => (WL_pure rfl rfl (by decide) (Pu_assign rfl rfl) (WL_nil (X_then ?_))))))
  refine W_seq ?_
  refine W.pre (K' := [(0, _), (1, _), (2, _)]) (L' := [(0, _), (1, _), (101, _)]) ?_ ⟨rfl, ⟨rfl, ⟨rfl, trivial⟩⟩⟩ ⟨rfl, ⟨rfl, ⟨rfl, trivial⟩⟩⟩
  refine W_regL (WL_pure rfl rfl (by decide) (Pu_makeFunc rfl rfl) (WL_pure rfl rfl (by decide) (Pu_assign rfl rfl) (WL_nil (X_then ?_))))
  refine W_ret ?_
  exact X_ret [1, 101] (Ps := [_, _]) (res1 Try.results28 rfl) rfl (by decide) ⟨_, rfl, rfl⟩
theorem collect_spec (bx g : Nat) (l : List BV) (hl : l.length ≤ 1000000000000) (F : HP) : CallsS Try.prog 34 #[.func (.func 36) #[] #[.pointer (some ⟨bx, 0, none⟩)]] F [mapB g (mbs l) none, blk bx 58 [.map (some g)]] (fun r Ps => ∃ xs, xs.Perm l ∧ Ps = [rowB2 r xs, mapB g (mbs l) none, blk bx 58 [.map (some g)]]) := by
  refine callsS_enter Try.func34 rfl Try.ntmps34 (by simp) (fun E => ?_)
  refine W_seq ?_
  refine W.pre (K' := [(0, _)]) (L' := [(0, _), (1, _), (2, _)]) ?_ ⟨rfl, trivial⟩ ⟨rfl, ⟨rfl, ⟨rfl, trivial⟩⟩⟩
  refine W_regL (WL_pure rfl rfl (by decide) (Pu_assign rfl rfl) (WL_nil (X_then ?_)))
  refine W_seq ?_
  refine W.pre (K' := [(0, _), (2, _)]) (L' := [(0, _), (1, _), (2, _)]) ?_ ⟨rfl, ⟨rfl, trivial⟩⟩ ⟨rfl, ⟨rfl, ⟨rfl, trivial⟩⟩⟩
  refine W_regL (WL_pure rfl rfl (by decide) (Pu_move rfl rfl) (WL_cons rfl rfl (by decide) (OpT_call 200 [0] [1, 2] rfl Try.call38 rfl rfl rfl (by decide) (by decide) (appendSeq_spec bx g l hl _) (fun v4 Ps4 hR4 => ?_))))
  obtain ⟨xs, hxs, rfl⟩ := hR4
  refine (WL_pure rfl rfl (by decide) (Pu_assign rfl rfl) (WL_nil (X_then ?_)))
  refine W_ret ?_
  exact X_ret [200, 201, 202] (Ps := [_, _, _]) (res1 Try.results34 rfl) rfl (by decide) ⟨xs, hxs, rfl⟩
theorem sortedFunc_spec (bx g : Nat) (l : List BV) (hl : l.length ≤ 1000000000000) (F : HP) : CallsS Try.prog 27 #[.func (.func 36) #[] #[.pointer (some ⟨bx, 0, none⟩)], .func (.func 29) #[] #[]] F [mapB g (mbs l) none, blk bx 58 [.map (some g)]] (fun r Ps => ∃ xs, xs.Perm l ∧ xs.Pairwise (fun a b => ltK b.key a.key = false) ∧ Ps = [rowB2 r xs, mapB g (mbs l) none, blk bx 58 [.map (some g)]]) := by
  refine callsS_enter Try.func27 rfl Try.ntmps27 (by simp) (fun E => ?_)
  refine W_seq ?_
  refine W.pre (K' := [(0, _), (1, _)]) (L' := [(0, _), (1, _), (2, _)]) ?_ ⟨rfl, ⟨rfl, trivial⟩⟩ ⟨rfl, ⟨rfl, ⟨rfl, trivial⟩⟩⟩
  refine W_regL (WL_pure rfl rfl (by decide) (Pu_assign rfl rfl) (WL_nil (X_then ?_)))
  refine W_seq ?_
  refine W.pre (K' := [(0, _), (1, _), (4, _)]) (L' := [(0, _), (1, _), (2, _)]) ?_ ⟨rfl, ⟨rfl, ⟨rfl, trivial⟩⟩⟩ ⟨rfl, ⟨rfl, ⟨rfl, trivial⟩⟩⟩
  refine W_regL (WL_pure rfl rfl (by decide) (Pu_move rfl rfl) (WL_cons rfl rfl (by decide) (OpT_call 200 [0] [1, 2] rfl Try.call34 rfl rfl rfl (by decide) (by decide) (collect_spec bx g l hl _) (fun v7 Ps7 hR7 => ?_))))
  obtain ⟨xs, hxs, rfl⟩ := hR7
  have hxl := hxs.length_eq
  refine (WL_pure rfl rfl (by decide) (Pu_assign rfl rfl) (WL_nil (X_then ?_)))
  refine W_seq ?_
  refine W.pre (K' := [(0, _), (1, _), (4, _), (5, _)]) (L' := [(0, _), (200, _), (201, _), (202, _)]) ?_ ⟨rfl, ⟨rfl, ⟨rfl, ⟨rfl, trivial⟩⟩⟩⟩ ⟨rfl, ⟨rfl, ⟨rfl, ⟨rfl, trivial⟩⟩⟩⟩
  refine W_regL (WL_pure rfl rfl (by decide) (Pu_move rfl rfl) (WL_pure rfl rfl (by decide) (Pu_move rfl rfl) (WL_cons rfl rfl (by decide) (OpT_call 300 [0, 201, 202] [200] rfl Try.call35 rfl rfl rfl (by decide) (by decide) (sortB_spec v7 xs (by omega) _) (fun v10 Ps10 hR10 => ?_)))))
  obtain ⟨rfl, ys, hys, hso, rfl⟩ := hR10
  skip
  refine (WL_nil (X_then ?_))
  refine W_seq ?_
  refine W.pre (K' := [(0, _), (1, _), (4, _), (5, _)]) (L' := [(0, _), (201, _), (202, _), (300, _)]) ?_ ⟨rfl, ⟨rfl, ⟨rfl, ⟨rfl, trivial⟩⟩⟩⟩ ⟨rfl, ⟨rfl, ⟨rfl, ⟨rfl, trivial⟩⟩⟩⟩
  refine W_regL (WL_pure rfl rfl (by decide) (Pu_move rfl rfl) (WL_pure rfl rfl (by decide) (Pu_assign rfl rfl) (WL_nil (X_then ?_))))
  refine W_ret ?_
  exact X_ret [300, 201, 202] (Ps := [_, _, _]) (res1 Try.results27 rfl) rfl (by decide) ⟨ys, hys.trans hxs, hso, rfl⟩
end Go.Proofs.Ytjopgnkffhfhkaa
/- Areas: the object as a resource. -/
namespace Go.Proofs.Ytjopgnkffhfhkaa
open Go.RowKit
set_option linter.unusedVariables false
set_option linter.unusedSimpArgs false
set_option linter.unusedSectionVars false
section
variable {P : Program} {E : Env} {n : Nat} {K : Slots} {L : Res} {o : Oper} {C : Value → Res → Prop}
theorem Pu_min {x y : Operand} {ts : Array TypeId} {a b : Int} (ho : o.op = .call { callee := .builtin .min, args := #[x, y], argTypes := ts }) (hx : evK K x = some (.int .i64 a)) (hy : evK K y = some (.int .i64 b)) : Pure P E n o K L (.int .i64 (min a b)) := fun c w hA hS => by
  have : (if b < a then b else a) = min a b := by simp only [Int.min_def]; split <;> split <;> omega
  simp only [execOp, ho, resolve, invoke, builtin, Sem.run_bind, Sem.run_pure, Result.andThen_ok, List.map_toArray, List.map_cons, List.map_nil, hA.eval hx, hA.eval hy]
  simp [Builtin.min_, Builtin.min2, this, Result.andThen]
theorem Pu_max {x y : Operand} {ts : Array TypeId} {a b : Int} (ho : o.op = .call { callee := .builtin .max, args := #[x, y], argTypes := ts }) (hx : evK K x = some (.int .i64 a)) (hy : evK K y = some (.int .i64 b)) : Pure P E n o K L (.int .i64 (max a b)) := fun c w hA hS => by
  have : (if b > a then b else a) = max a b := by simp only [Int.max_def]; split <;> split <;> omega
  simp only [execOp, ho, resolve, invoke, builtin, Sem.run_bind, Sem.run_pure, Result.andThen_ok, List.map_toArray, List.map_cons, List.map_nil, hA.eval hx, hA.eval hy]
  simp [Builtin.max_, Builtin.max2, this, Result.andThen]
theorem run_neg (a : Int) (h : -9223372036854775808 < a ∧ a < 9223372036854775808) (w : World) : (Op.unary .neg (.int .i64 a)).run P w = .ok (.int .i64 (-a)) w := by
  have : IntKind.i64.wrap (0 - a) = -a := by
    rw [IntKind.wrap_i64]; omega
  simp only [Int.zero_sub] at this
  simp [Op.unary, Op.intArith, this]
section
variable {κ : Type} [DecidableEq κ] {kt mt et : TypeId} {enc : κ → Value} {ok : κ → Prop}
def putQ (k : κ) (v : Value) (es : List (κ × Value)) : List (κ × Value) := if (lookQ k es).isSome then setQ k v es else es ++ [(k, v)]
theorem lookQ_set (k : κ) (v : Value) : ∀ (es : List (κ × Value)) (j : κ), lookQ j (setQ k v es) = if j = k ∧ (lookQ k es).isSome then some v else lookQ j es
  | [], j => by simp [setQ, lookQ]
  | p :: es, j => by
    rw [setQ]
    by_cases hk : k = p.1
    · rw [if_pos hk, lookQ, lookQ, lookQ, if_pos hk]
      by_cases hj : j = k
      · simp [hj]
      · simp [hj, hk ▸ hj]
    · rw [if_neg hk, lookQ, lookQ_set k v es j, lookQ, lookQ, if_neg hk]
      by_cases hj : j = p.1
      · have : j ≠ k := fun h => hk (h ▸ hj)
        simp [hj, this, show p.1 ≠ k from fun h => hk h.symm]
      · simp [hj]
theorem lookQ_app (k : κ) (v : Value) : ∀ (es : List (κ × Value)) (j : κ), lookQ j (es ++ [(k, v)]) = (lookQ j es).or (if j = k then some v else none)
  | [], j => by simp [lookQ]
  | p :: es, j => by
    rw [List.cons_append, lookQ, lookQ, lookQ_app k v es j]
    by_cases hj : j = p.1 <;> simp [hj]
theorem lookQ_put (k : κ) (v : Value) (es : List (κ × Value)) (j : κ) : lookQ j (putQ k v es) = if j = k then some v else lookQ j es := by
  unfold putQ
  cases h : (lookQ k es).isSome with
  | true => rw [if_pos rfl, lookQ_set]; simp [h]
  | false =>
    rw [if_neg (by simp), lookQ_app]
    by_cases hj : j = k
    · subst hj
      rw [if_pos rfl, if_pos rfl, Option.isSome_eq_false_iff.1 h |> Option.isNone_iff_eq_none.1]
      rfl
    · rw [if_neg hj, if_neg hj, Option.or_none]
theorem OpT_mapPutQ {r g : Nat} {x y z : Operand} {k : κ} {v : Value} {es : List (κ × Value)} (T : KeyT P kt enc ok) (ho : o.op = .mapUpdate mt x y z) (hm : P.underlying mt = some (.map kt et))
    (hx : evK K x = some (.map (some g))) (hy : evK K y = some (enc k)) (hl : ok k) (hz : evK K z = some v) (hr : look L r = some (mapQ enc ok g es none)) (hc : C undef ((r, mapQ enc ok g (putQ k v es) none) :: L)) : OpT P E n o K L C := by
  unfold putQ at hc
  cases h : (lookQ k es).isSome with
  | true => rw [h] at hc; exact OpT_mapSetQ T ho hm hx hy hl hz hr h hc
  | false => rw [h] at hc; exact OpT_mapAddQ T ho hm hx hy hl hz hr (Option.isNone_iff_eq_none.1 (Option.isSome_eq_false_iff.1 h)) hc
end
end
@[ext] structure Bk where
  key : List UInt8
  data : List UInt8
  src : Int
  exp : Int
deriving DecidableEq
/-- A block as it stands in memory, and its bytes. -/
abbrev EB := BV × List UInt8
def toBk (p : EB) : Bk := ⟨p.1.key, p.2, p.1.src, p.1.exp⟩
def totE (es : List EB) : Nat := (es.map (·.2.length)).sum
def usedE (s : Int) (es : List EB) : Nat := ((es.filter fun p => decide (p.1.src = s)).map (·.2.length)).sum
def entsOf (es : List EB) : List (List UInt8 × Value) := mbs (es.map (·.1))
def datP (es : List EB) : HP := fun h => ∀ p ∈ es, rdB p.1.sl p.2 h
abbrev intV (z : Int) : Value := .int .i64 z
abbrev mapU (g : Nat) (us : List (Int × Value)) : HP := mapQ intV (fun _ => True) g us none
theorem keyU : KeyT Try.prog 3 intV (fun _ => True) := keyT_int Try.underlying3
abbrev areaC (soon room quota : Int) (gm gu : Nat) (tot : Int) : List Value := [.int .i64 soon, .int .i64 room, .int .i64 quota, .map (some gm), .map (some gu), .int .i64 tot]
abbrev areaB (g : Nat) (soon room quota : Int) (gm gu : Nat) (tot : Int) : HP := blk g 61 (areaC soon room quota gm gu tot)
/-- The parts of an area. -/
structure RawG (room quota : Int) (es : List EB) : Prop where
  nodup : (es.map (·.1.key)).Nodup
  fits : (totE es : Int) ≤ room
  most : room ≤ 1073741824
  mostq : quota ≤ 1073741824
  posq : 1 ≤ quota
abbrev UsedOk (us : List (Int × Value)) (es : List EB) : Prop := ∀ s, (lookQ s us).getD (.int .i64 0) = .int .i64 (usedE s es : Int)
abbrev rawParts (g : Nat) (room quota soon : Int) (es : List EB) (it : Option (It (List UInt8))) (gm gu : Nat) (us : List (Int × Value)) : List HP := [areaB g soon room quota gm gu (totE es : Int), mapB gm (entsOf es) it, mapU gu us, datP es]
def rawP (g : Nat) (room quota soon : Int) (es : List EB) (it : Option (It (List UInt8))) : HP := fun h => ∃ q : Nat × Nat × List (Int × Value), (RawG room quota es ∧ UsedOk q.2.2 es) ∧ starL (rawParts g room quota soon es it q.1 q.2.1 q.2.2) h
theorem closeRaw {g : Nat} {room quota soon : Int} {es : List EB} {it : Option (It (List UInt8))} {gm gu : Nat} {us : List (Int × Value)} (hg : RawG room quota es) (hu : UsedOk us es) {h : Hlt} (hs : starL (rawParts g room quota soon es it gm gu us) h) : rawP g room quota soon es it h := ⟨(gm, gu, us), ⟨hg, hu⟩, hs⟩
theorem W_openRaw {P : Program} {E : Env} {n : Nat} {K : Slots} {L : Res} {Q : Exit → Act → World → Prop} {c : Code} (r b : Nat) {g : Nat} {room quota soon : Int} {es : List EB} {it : Option (It (List UInt8))} (hr : look L r = some (rawP g room quota soon es it))
    (k : ∀ gm gu us, RawG room quota es → UsedOk us es → W P E n c K (En b (rawParts g room quota soon es it gm gu us) ++ (r, emp) :: L) Q) : W P E n c K L Q :=
  W_open (φ := fun q : Nat × Nat × List (Int × Value) => RawG room quota es ∧ UsedOk q.2.2 es) (Ps := fun q => rawParts g room quota soon es it q.1 q.2.1 q.2.2) r b hr (fun h hp => hp) (fun q hq => k q.1 q.2.1 q.2.2 hq.1 hq.2)
end Go.Proofs.Ytjopgnkffhfhkaa
/- Areas: plain words. -/
namespace Go.Proofs.Ytjopgnkffhfhkaa
open Go.RowKit
set_option linter.unusedVariables false
set_option linter.unusedSimpArgs false
def findE (k : List UInt8) : List EB → Option EB
  | [] => none
  | p :: es => if k = p.1.key then some p else findE k es
def delE (k : List UInt8) : List EB → List EB
  | [] => []
  | p :: es => if k = p.1.key then es else p :: delE k es
def getB (k : List UInt8) (es : List EB) : BV := ((findE k es).map (·.1)).getD default
def datB (k : List UInt8) (es : List EB) : List UInt8 := ((findE k es).map (·.2)).getD []
theorem lookQ_ents (k : List UInt8) : ∀ es : List EB, lookQ k (entsOf es) = (findE k es).map fun p => encB p.1
  | [] => rfl
  | p :: es => by
    show (if k = p.1.key then some (encB p.1) else lookQ k (entsOf es)) = _
    rw [findE, lookQ_ents k es]
    split <;> rfl
theorem delQ_ents (k : List UInt8) : ∀ es : List EB, delQ k (entsOf es) = entsOf (delE k es)
  | [] => rfl
  | p :: es => by
    show (if k = p.1.key then entsOf es else (p.1.key, encB p.1) :: delQ k (entsOf es)) = _
    rw [delE, delQ_ents k es]
    split <;> rfl
theorem findE_some {k : List UInt8} : ∀ {es : List EB} {p : EB}, findE k es = some p → p ∈ es ∧ p.1.key = k
  | [], _, h => by cases h
  | q :: es, p, h => by
    rw [findE] at h
    by_cases hk : k = q.1.key
    · rw [if_pos hk] at h; injection h with h; subst h; exact ⟨by simp, hk.symm⟩
    · rw [if_neg hk] at h; obtain ⟨h1, h2⟩ := findE_some h; exact ⟨by simp [h1], h2⟩
theorem findE_none {k : List UInt8} : ∀ {es : List EB}, findE k es = none → (∀ p ∈ es, p.1.key ≠ k) ∧ delE k es = es
  | [], _ => ⟨by simp, rfl⟩
  | q :: es, h => by
    rw [findE] at h
    by_cases hk : k = q.1.key
    · simp [hk] at h
    · rw [if_neg hk] at h
      obtain ⟨h1, h2⟩ := findE_none h
      refine ⟨fun p hp => ?_, by rw [delE, if_neg hk, h2]⟩
      rcases List.mem_cons.1 hp with rfl | hp
      · exact fun e => hk e.symm
      · exact h1 p hp
theorem totE_cons (p : EB) (es : List EB) : totE (p :: es) = p.2.length + totE es := by simp [totE]
theorem totE_app (a b : List EB) : totE (a ++ b) = totE a + totE b := by simp [totE]
theorem usedE_cons (s : Int) (p : EB) (es : List EB) : usedE s (p :: es) = (if p.1.src = s then p.2.length else 0) + usedE s es := by
  unfold usedE
  by_cases h : p.1.src = s <;> simp [h]
theorem usedE_le (s : Int) : ∀ es : List EB, usedE s es ≤ totE es
  | [] => by simp [usedE, totE]
  | p :: es => by
    have := usedE_le s es
    rw [usedE_cons, totE_cons]
    split <;> omega
theorem usedE_app (s : Int) (a b : List EB) : usedE s (a ++ b) = usedE s a + usedE s b := by simp [usedE]
theorem find_perm {k : List UInt8} : ∀ {es : List EB} {p : EB}, findE k es = some p → es.Perm (p :: delE k es)
  | [], _, h => by cases h
  | q :: es, p, h => by
    rw [findE] at h
    rw [delE]
    by_cases hk : k = q.1.key
    · rw [if_pos hk] at h ⊢; injection h with h; subst h; exact List.Perm.refl _
    · rw [if_neg hk] at h ⊢
      exact ((find_perm h).cons q).trans (List.Perm.swap _ _ _)
theorem totE_perm {a b : List EB} (h : a.Perm b) : totE a = totE b := (h.map _).sum_nat
theorem usedE_perm {a b : List EB} (s : Int) (h : a.Perm b) : usedE s a = usedE s b := ((h.filter _).map _).sum_nat
theorem totE_del {k : List UInt8} {es : List EB} {p : EB} (h : findE k es = some p) : totE es = p.2.length + totE (delE k es) := by rw [totE_perm (find_perm h), totE_cons]
theorem usedE_del {k : List UInt8} {es : List EB} {p : EB} (s : Int) (h : findE k es = some p) : usedE s es = (if p.1.src = s then p.2.length else 0) + usedE s (delE k es) := by rw [usedE_perm s (find_perm h), usedE_cons]
theorem delE_sub (k : List UInt8) : ∀ es : List EB, (delE k es).Sublist es
  | [] => List.Sublist.refl _
  | p :: es => by
    rw [delE]
    split
    · exact List.sublist_cons_self _ _
    · exact (delE_sub k es).cons_cons p
theorem datP_sub {a b : List EB} (h : ∀ p ∈ b, p ∈ a) {hh : Hlt} (hd : datP a hh) : datP b hh := fun p hp => hd p (h p hp)
theorem datP_get {es : List EB} (k : List UInt8) {h : Hlt} (hd : datP es h) : rdB (getB k es).sl (datB k es) h := by
  unfold getB datB
  cases hf : findE k es with
  | none => exact rd_const 0 1 h
  | some p => exact hd p (findE_some hf).1
theorem ents_get (k : List UInt8) (es : List EB) : (lookQ k (entsOf es)).getD (.agg (bkC zeroId (.slice none 0 0) 0 0).toArray) = encB (getB k es) := by
  rw [lookQ_ents]
  unfold getB
  cases findE k es <;> rfl
theorem ents_is (k : List UInt8) (es : List EB) : (lookQ k (entsOf es)).isSome = (findE k es).isSome := by rw [lookQ_ents]; cases findE k es <;> rfl
theorem RawG.del {room quota : Int} {es : List EB} (hg : RawG room quota es) (k : List UInt8) : RawG room quota (delE k es) where
  nodup := hg.nodup.sublist ((delE_sub k es).map _)
  fits := by
    have := hg.fits
    cases hf : findE k es with
    | none => rw [(findE_none hf).2]; exact this
    | some p => have := totE_del hf; omega
  most := hg.most
  mostq := hg.mostq
  posq := hg.posq
theorem datB_len {room quota : Int} {es : List EB} (hg : RawG room quota es) (k : List UInt8) : ((datB k es).length : Int) ≤ 1073741824 := by
  unfold datB
  have h1 := hg.fits
  have h2 := hg.most
  cases hf : findE k es with
  | none => simp
  | some p => have := totE_del hf; simp; omega
section
variable {P : Program} {E : Env} {n : Nat} {K : Slots} {L : Res} {o : Oper}
theorem Pu_look {r g : Nat} {x y : Operand} {k : List UInt8} {es : List EB} {it : Option (It (List UInt8))} (ho : o.op = .lookup 58 x y true) (hx : evK K x = some (.map (some g))) (hy : evK K y = some (idV k)) (hl : k.length = 32) (hr : look L r = some (mapB g (entsOf es) it)) :
    Pure Try.prog E n o K L (.tuple #[encB (getB k es), .bool (findE k es).isSome]) := by
  rw [← ents_get, ← ents_is]
  exact Pu_lookupOkQ keyB ho Try.underlying58 (zero_run (by kernel_rfl : (Try.prog.info? 40).bind (·.zero) = some (.agg (bkC zeroId (.slice none 0 0) 0 0).toArray))) hx hy hl hr
theorem Pu_lookU {r g : Nat} {x y : Operand} {s : Int} {us : List (Int × Value)} {u : Value} (ho : o.op = .lookup 59 x y false) (hx : evK K x = some (.map (some g))) (hy : evK K y = some (.int .i64 s)) (hr : look L r = some (mapU g us)) (hu : (lookQ s us).getD (.int .i64 0) = u) :
    Pure Try.prog E n o K L u := by
  rw [← hu]
  exact Pu_lookupQ keyU ho Try.underlying59 Try.zeroValue3 hx hy trivial hr
end
end Go.Proofs.Ytjopgnkffhfhkaa
/- Areas: a block let go; what is counted. -/
namespace Go.Proofs.Ytjopgnkffhfhkaa
open Go.RowKit
set_option linter.unusedVariables false
set_option linter.unusedSimpArgs false
set_option maxRecDepth 8000
theorem mapQ_itDel {κ : Type} [DecidableEq κ] {enc : κ → Value} {ok : κ → Prop} {g : Nat} {es : List (κ × Value)} {it : Option (It κ)} {h : Hlt} (hp : mapQ enc ok g es it h) : mapQ enc ok g es (itDel it) h := by
  cases it with
  | none => exact hp
  | some i => obtain ⟨r, left, cur⟩ := i; exact mapQ_uncur hp
theorem used_del {us : List (Int × Value)} {es : List EB} {k : List UInt8} {p : EB} (hu : UsedOk us es) (hf : findE k es = some p) : UsedOk (putQ p.1.src (.int .i64 ((usedE p.1.src es : Int) + -(p.2.length : Int))) us) (delE k es) := fun s => by
  rw [lookQ_put]
  have h1 := usedE_del s hf
  by_cases hs : s = p.1.src
  · rw [if_pos hs]
    rw [if_pos hs.symm] at h1
    subst hs
    show Value.int .i64 _ = _
    congr 1
    omega
  · rw [if_neg hs, hu s]
    rw [if_neg (Ne.symm hs)] at h1
    congr 2
    omega
theorem used_add {us : List (Int × Value)} {es : List EB} {p : EB} (hu : UsedOk us es) : UsedOk (putQ p.1.src (.int .i64 ((usedE p.1.src es : Int) + (p.2.length : Int))) us) (es ++ [p]) := fun s => by
  rw [lookQ_put]
  have h1 := usedE_app s es [p]
  rw [usedE_cons] at h1
  by_cases hs : s = p.1.src
  · rw [if_pos hs]
    rw [if_pos hs.symm] at h1
    subst hs
    show Value.int .i64 _ = _
    congr 1
    rw [h1]
    simp [usedE]
    try omega
  · rw [if_neg hs, hu s, h1]
    simp [usedE, Ne.symm hs]
theorem count_spec (g gm gu : Nat) (soon room quota tot old src m : Int) (us : List (Int × Value)) (hu : (lookQ src us).getD (.int .i64 0) = .int .i64 old) (h1 : -4000000000 ≤ old ∧ old ≤ 4000000000) (h2 : -4000000000 ≤ tot ∧ tot ≤ 4000000000) (h3 : -4000000000 < m ∧ m < 4000000000) (F : HP) : CallsS Try.prog 32 #[.pointer (some ⟨g, 0, none⟩), .int .i64 src, .int .i64 m] F [areaB g soon room quota gm gu tot, mapU gu us] (fun r Ps => r = .tuple #[] ∧ Ps = [areaB g soon room quota gm gu (tot + m), mapU gu (putQ src (.int .i64 (old + m)) us)]) := by
  refine callsS_enter Try.func32 rfl Try.ntmps32 (by simp) (fun E => ?_)
  refine W_seq ?_
  refine W.pre (K' := [(0, _), (1, _), (2, _)]) (L' := [(0, _), (1, _), (2, _)]) ?_ ⟨rfl, ⟨rfl, ⟨rfl, trivial⟩⟩⟩ ⟨rfl, ⟨rfl, ⟨rfl, trivial⟩⟩⟩
  refine W_regL (WL_pure rfl rfl (by decide) (Pu_move rfl rfl) (WL_pure rfl rfl (by decide) (Pu_nilCheck rfl rfl) (WL_pure rfl rfl (by decide) (Pu_fieldAddrB (off := 4) rfl rfl (by kernel_rfl)) (WL_pure rfl rfl (by decide) (Pu_loadB (r := 1) rfl Try.isAgg59 rfl rfl rfl) (WL_pure rfl rfl (by decide) (Pu_move rfl rfl) (WL_pure rfl rfl (by decide) (Pu_lookU (r := 2) rfl rfl rfl rfl hu) (WL_pure rfl rfl (by decide) (Pu_move rfl rfl) (WL_pure rfl rfl (by decide) (Pu_bin rfl rfl rfl (run_add _ _ _ _ _ (by omega))) (WL_cons0 rfl rfl (OpT_mapPutQ (r := 2) (k := src) (v := .int .i64 (old + m)) (es := us) (g := gu) keyU rfl Try.underlying59 rfl rfl True.intro rfl rfl ?_))))))))))
  refine (WL_nil (X_then ?_))
  refine W.pre (K' := [(0, _), (1, _), (2, _)]) (L' := [(0, _), (1, _), (2, _)]) ?_ ⟨rfl, ⟨rfl, ⟨rfl, trivial⟩⟩⟩ ⟨rfl, ⟨rfl, ⟨rfl, trivial⟩⟩⟩
  refine W_regL (WL_pure rfl rfl (by decide) (Pu_move rfl rfl) (WL_pure rfl rfl (by decide) (Pu_nilCheck rfl rfl) (WL_pure rfl rfl (by decide) (Pu_fieldAddrB (off := 5) rfl rfl (by kernel_rfl)) (WL_pure rfl rfl (by decide) (Pu_loadB (r := 1) rfl Try.isAgg3 rfl rfl rfl) (WL_pure rfl rfl (by decide) (Pu_move rfl rfl) (WL_pure rfl rfl (by decide) (Pu_bin rfl rfl rfl (run_add _ _ _ _ _ (by omega))) (WL_pure rfl rfl (by decide) (Pu_nilCheck rfl rfl) (WL_pure rfl rfl (by decide) (Pu_fieldAddrB (off := 5) rfl rfl (by kernel_rfl)) (WL_cons0 rfl rfl (OpT_storeB1 (r := 1) rfl Try.sizeOf3 rfl rfl rfl rfl (by simp) rfl ?_))))))))))
  refine (WL_nil ?_)
  exact X_end [1, 2] (Ps := [_, _]) (res0 Try.results32) rfl (by decide) ⟨rfl, rfl⟩
theorem drop_raw (g : Nat) (room quota soon : Int) (es : List EB) (it : Option (It (List UInt8))) (k : List UInt8) (hk : k.length = 32) (hleft : ∀ i, it = some i → ∀ p ∈ i.2.1, p.1 ≠ k) (F : HP) : CallsS Try.prog 18 #[.pointer (some ⟨g, 0, none⟩), idV k] F [rawP g room quota soon es it] (fun r Ps => r = .bool (findE k es).isSome ∧ Ps = [rawP g room quota soon (delE k es) (itDel it)]) := by
  refine callsS_enter Try.func18 rfl Try.ntmps18 (by simp) (fun E => ?_)
  refine W_seq ?_
  refine W.pre (K' := [(0, _), (1, _)]) (L' := [(0, _), (1, _)]) ?_ ⟨rfl, ⟨rfl, trivial⟩⟩ ⟨rfl, ⟨rfl, trivial⟩⟩
  refine W_openRaw 1 200 rfl (fun gm gu us hg hu => ?_)
  have hfit := hg.fits
  have hmost := hg.most
  have hmq := hg.mostq
  refine W_regL (WL_cons rfl rfl (by decide) (OpT_box (r := 251) rfl rfl rfl (fun g251 => (WL_pure rfl rfl (by decide) (Pu_assign rfl rfl) (WL_nil (X_then ?_))))))
  refine W_seq ?_
  refine W.pre (K' := [(0, _), (1, _), (3, _), (4, _)]) (L' := [(0, _), (200, _), (201, _), (202, _), (203, _), (251, _)]) ?_ ⟨rfl, ⟨rfl, ⟨rfl, ⟨rfl, trivial⟩⟩⟩⟩ ⟨rfl, ⟨rfl, ⟨rfl, ⟨rfl, ⟨rfl, ⟨rfl, trivial⟩⟩⟩⟩⟩⟩
  refine W_draw (N := 12) (by kernel_rfl) rfl [(0, _), (200, _), (251, _)] ⟨rfl, ⟨rfl, ⟨rfl, trivial⟩⟩⟩ ?_
  refine (AH_take 0 rfl (by kernel_rfl) (by kernel_rfl) (by kernel_rfl) rfl rfl (by decide) (Pu_move rfl rfl) (AH_take 1 rfl (by kernel_rfl) (by kernel_rfl) (by kernel_rfl) rfl rfl (by decide) (Pu_nilCheck rfl rfl) (AH_take 2 rfl (by kernel_rfl) (by kernel_rfl) (by kernel_rfl) rfl rfl (by decide) (Pu_fieldAddrB (off := 3) rfl rfl (by kernel_rfl)) (AH_take 3 rfl (by kernel_rfl) (by kernel_rfl) (by kernel_rfl) rfl rfl (by decide) (Pu_loadB (r := 200) rfl Try.isAgg58 rfl rfl rfl) (AH_take 4 rfl (by kernel_rfl) (by kernel_rfl) (by kernel_rfl) rfl rfl (by decide) (Pu_loadBN (r := 251) rfl Try.isAgg36 Try.sizeOf36 rfl rfl ((bs_length _).trans hk) (load_all ((bs_length _).trans hk))) (AH_ready [5, 9] (by kernel_rfl) (by decide) ?_))))))
  refine AHs_cons rfl rfl rfl (by decide) (OpT_run (Pu_look (r := 201) rfl rfl rfl hk rfl) ⟨⟨rfl, ⟨rfl, ⟨rfl, trivial⟩⟩⟩, ?_⟩) ?_
  ·
    refine (AH_take 6 rfl (by kernel_rfl) (by kernel_rfl) (by kernel_rfl) rfl rfl (by decide) (Pu_move rfl rfl) (AH_take 7 rfl (by kernel_rfl) (by kernel_rfl) (by kernel_rfl) rfl rfl (by decide) (Pu_extract rfl rfl rfl) (AH_take 8 rfl (by kernel_rfl) (by kernel_rfl) (by kernel_rfl) rfl rfl (by decide) (Pu_extract rfl rfl rfl) (AH_ready [9] (by kernel_rfl) (by decide) ?_))))
    refine AHs_cons rfl rfl rfl (by decide) (OpT_alloc (r := 252) rfl (zero_run (by kernel_rfl : (Try.prog.info? 40).bind (·.zero) = some (.agg (bkC zeroId (.slice none 0 0) 0 0).toArray))) rfl (fun g252 => ⟨⟨rfl, ⟨rfl, ⟨rfl, trivial⟩⟩⟩, ?_⟩)) ?_
    ·
      refine (AH_ready [10] (by kernel_rfl) (by decide) ?_)
      refine AHs_cons0 rfl rfl rfl (OpT_storeAll (r := 252) rfl Try.sizeOf40 rfl rfl rfl (bkC_length rfl) (bvC_length _) (bvC_one _) ?_) ?_
      ·
        refine ⟨⟨rfl, ⟨rfl, ⟨rfl, trivial⟩⟩⟩, ?_⟩
        refine (AH_take 11 rfl (by kernel_rfl) (by kernel_rfl) (by kernel_rfl) rfl rfl (by decide) (Pu_assign rfl rfl) (AH_done (by kernel_rfl) (X_then ?_)))
        refine W_seq ?_
        refine W_seq ?_
        refine W.pre (K' := [(0, _), (1, _), (3, _), (4, _), (5, _), (6, _)]) (L' := [(0, _), (200, _), (201, _), (202, _), (203, _), (251, _), (252, _)]) ?_ ⟨rfl, ⟨rfl, ⟨rfl, ⟨rfl, ⟨rfl, ⟨rfl, trivial⟩⟩⟩⟩⟩⟩ ⟨rfl, ⟨rfl, ⟨rfl, ⟨rfl, ⟨rfl, ⟨rfl, ⟨rfl, trivial⟩⟩⟩⟩⟩⟩⟩
        refine W_regL (WL_pure rfl rfl (by decide) (Pu_move rfl rfl) (WL_nil (X_then ?_)))
        refine W_cond rfl (fun hc16 => ?_) (fun hc16 => ?_)
        ·
          obtain ⟨p, hf⟩ := Option.isSome_iff_exists.1 hc16
          have htd := totE_del hf
          have hud := usedE_del p.1.src hf
          rw [if_pos rfl] at hud
          have hle := usedE_le p.1.src es
          have hB : getB k es = p.1 := by unfold getB; rw [hf]; rfl
          have hD : datB k es = p.2 := by unfold datB; rw [hf]; rfl
          rw [hB]
          refine W_seq ?_
          refine W.pre (K' := [(0, _), (1, _), (3, _), (4, _), (5, _), (6, _), (16, _)]) (L' := [(0, _), (200, _), (201, _), (202, _), (203, _), (251, _), (252, _)]) ?_ ⟨rfl, ⟨rfl, ⟨rfl, ⟨rfl, ⟨rfl, ⟨rfl, ⟨rfl, trivial⟩⟩⟩⟩⟩⟩⟩ ⟨rfl, ⟨rfl, ⟨rfl, ⟨rfl, ⟨rfl, ⟨rfl, ⟨rfl, trivial⟩⟩⟩⟩⟩⟩⟩
          refine W_draw (N := 6) (by kernel_rfl) rfl [(0, _), (200, _), (251, _), (252, _)] ⟨rfl, ⟨rfl, ⟨rfl, ⟨rfl, trivial⟩⟩⟩⟩ ?_
          refine (AH_take 0 rfl (by kernel_rfl) (by kernel_rfl) (by kernel_rfl) rfl rfl (by decide) (Pu_move rfl rfl) (AH_take 1 rfl (by kernel_rfl) (by kernel_rfl) (by kernel_rfl) rfl rfl (by decide) (Pu_nilCheck rfl rfl) (AH_take 2 rfl (by kernel_rfl) (by kernel_rfl) (by kernel_rfl) rfl rfl (by decide) (Pu_fieldAddrB (off := 3) rfl rfl (by kernel_rfl)) (AH_take 3 rfl (by kernel_rfl) (by kernel_rfl) (by kernel_rfl) rfl rfl (by decide) (Pu_loadB (r := 200) rfl Try.isAgg58 rfl rfl rfl) (AH_take 4 rfl (by kernel_rfl) (by kernel_rfl) (by kernel_rfl) rfl rfl (by decide) (Pu_loadBN (r := 251) rfl Try.isAgg36 Try.sizeOf36 rfl rfl ((bs_length _).trans hk) (load_all ((bs_length _).trans hk))) (AH_ready [5] (by kernel_rfl) (by decide) ?_))))))
          refine AHs_cons0 rfl rfl rfl (OpT_deleteQ (r := 201) keyB rfl Try.underlying58 rfl rfl hk rfl hleft ?_) ?_
          ·
            refine ⟨⟨rfl, ⟨rfl, ⟨rfl, ⟨rfl, trivial⟩⟩⟩⟩, ?_⟩
            refine (AH_done (by kernel_rfl) (X_then ?_))
            refine W.pre (K' := [(0, _), (1, _), (3, _), (4, _), (5, _), (6, _), (16, _)]) (L' := [(0, _), (200, _), (201, _), (202, _), (203, _), (251, _), (252, _)]) ?_ ⟨rfl, ⟨rfl, ⟨rfl, ⟨rfl, ⟨rfl, ⟨rfl, ⟨rfl, trivial⟩⟩⟩⟩⟩⟩⟩ ⟨rfl, ⟨rfl, ⟨rfl, ⟨rfl, ⟨rfl, ⟨rfl, ⟨rfl, trivial⟩⟩⟩⟩⟩⟩⟩
            refine W_regL (WL_pure rfl rfl (by decide) (Pu_move rfl rfl) (WL_pure rfl rfl (by decide) (Pu_fieldAddrB (off := 33) rfl rfl (by kernel_rfl)) (WL_pure rfl rfl (by decide) (Pu_loadB (r := 252) rfl Try.isAgg3 rfl rfl (bk_src p.1.len)) (WL_pure rfl rfl (by decide) (Pu_fieldAddrB (off := 32) rfl rfl (by kernel_rfl)) (WL_pure rfl rfl (by decide) (Pu_loadB (r := 252) rfl Try.isAgg38 rfl rfl (bk_data p.1.len)) (WL_pure rfl rfl (by decide) (Pu_len (r := 203) rfl Try.runUnderlying38 rfl rfl (fun h hp => hp p (findE_some hf).1)) (WL_pure rfl rfl (by decide) (Pu_un rfl rfl (run_neg _ (by omega))) (WL_cons rfl rfl (by decide) (OpT_call 300 [0, 201, 203, 251, 252] [200, 202] rfl Try.call32 rfl rfl rfl (by decide) (by decide) (count_spec g gm gu soon room quota _ _ p.1.src _ us (hu p.1.src) (by omega) (by omega) (by omega) _) (fun v29 Ps29 hR29 => ?_))))))))))
            obtain ⟨rfl, rfl⟩ := hR29
            skip
            refine (WL_nil (X_then ?_))
            refine W_seq ?_
            refine W.pre (K' := [(0, _), (1, _), (3, _), (4, _), (5, _), (6, _), (16, _)]) (L' := [(0, _), (201, _), (203, _), (251, _), (252, _), (300, _), (301, _)]) ?_ ⟨rfl, ⟨rfl, ⟨rfl, ⟨rfl, ⟨rfl, ⟨rfl, ⟨rfl, trivial⟩⟩⟩⟩⟩⟩⟩ ⟨rfl, ⟨rfl, ⟨rfl, ⟨rfl, ⟨rfl, ⟨rfl, ⟨rfl, trivial⟩⟩⟩⟩⟩⟩⟩
            refine W_regL (WL_pure rfl rfl (by decide) (Pu_move rfl rfl) (WL_pure rfl rfl (by decide) (Pu_assign rfl rfl) (WL_nil (X_then ?_))))
            refine W_ret ?_
            refine X_turn (P' := datP (delE k es)) 203 rfl (fun h hp => datP_sub (fun q hq => (delE_sub k es).subset hq) hp) ?_
            refine X_turn (P' := areaB g soon room quota gm gu (totE (delE k es) : Int)) 300 rfl (fun h hp => by rw [show ((totE (delE k es) : Nat) : Int) = (totE es : Int) + -(p.2.length : Int) by omega]; exact hp) ?_
            refine X_turn (P' := mapB gm (entsOf (delE k es)) (itDel it)) 201 rfl (fun h hp => by rw [← delQ_ents]; exact hp) ?_
            refine X_join [300, 201, 301, 203] 1 (rawP g room quota soon (delE k es) (itDel it)) rfl (by decide) (fun h hs => closeRaw (hg.del k) (used_del hu hf) hs) ?_
            exact X_ret [1] (Ps := [_]) (res1 Try.results18 rfl) rfl (by decide) ⟨rfl, rfl⟩
          exact AHs_nil
        ·
          have hf : findE k es = none := by simpa using hc16
          refine W_skip (X_then ?_)
          refine W_seq ?_
          refine W.pre (K' := [(0, _), (1, _), (3, _), (4, _), (5, _), (6, _), (16, _)]) (L' := [(0, _), (200, _), (201, _), (202, _), (203, _), (251, _), (252, _)]) ?_ ⟨rfl, ⟨rfl, ⟨rfl, ⟨rfl, ⟨rfl, ⟨rfl, ⟨rfl, trivial⟩⟩⟩⟩⟩⟩⟩ ⟨rfl, ⟨rfl, ⟨rfl, ⟨rfl, ⟨rfl, ⟨rfl, ⟨rfl, trivial⟩⟩⟩⟩⟩⟩⟩
          refine W_regL (WL_pure rfl rfl (by decide) (Pu_move rfl rfl) (WL_pure rfl rfl (by decide) (Pu_assign rfl rfl) (WL_nil (X_then ?_))))
          refine W_ret ?_
          rw [(findE_none hf).2]
          refine X_turn 201 rfl (fun h hp => mapQ_itDel hp) ?_
          refine X_join [200, 201, 202, 203] 1 (rawP g room quota soon es (itDel it)) rfl (by decide) (fun h hs => closeRaw hg hu hs) ?_
          exact X_ret [1] (Ps := [_]) (res1 Try.results18 rfl) rfl (by decide) ⟨rfl, rfl⟩
      exact AHs_nil
    exact AHs_nil
  refine AHs_cons rfl rfl rfl (by decide) (OpT_alloc (r := 252) rfl (zero_run (by kernel_rfl : (Try.prog.info? 40).bind (·.zero) = some (.agg (bkC zeroId (.slice none 0 0) 0 0).toArray))) rfl (fun g252 => ⟨⟨rfl, ⟨rfl, ⟨rfl, trivial⟩⟩⟩, ?_⟩)) ?_
  ·
    refine (AH_ready [5] (by kernel_rfl) (by decide) ?_)
    refine AHs_cons rfl rfl rfl (by decide) (OpT_run (Pu_look (r := 201) rfl rfl rfl hk rfl) ⟨⟨rfl, ⟨rfl, ⟨rfl, trivial⟩⟩⟩, ?_⟩) ?_
    ·
      refine (AH_take 6 rfl (by kernel_rfl) (by kernel_rfl) (by kernel_rfl) rfl rfl (by decide) (Pu_move rfl rfl) (AH_take 7 rfl (by kernel_rfl) (by kernel_rfl) (by kernel_rfl) rfl rfl (by decide) (Pu_extract rfl rfl rfl) (AH_take 8 rfl (by kernel_rfl) (by kernel_rfl) (by kernel_rfl) rfl rfl (by decide) (Pu_extract rfl rfl rfl) (AH_ready [10] (by kernel_rfl) (by decide) ?_))))
      refine AHs_cons0 rfl rfl rfl (OpT_storeAll (r := 252) rfl Try.sizeOf40 rfl rfl rfl (bkC_length rfl) (bvC_length _) (bvC_one _) ?_) ?_
      ·
        refine ⟨⟨rfl, ⟨rfl, ⟨rfl, trivial⟩⟩⟩, ?_⟩
        refine (AH_take 11 rfl (by kernel_rfl) (by kernel_rfl) (by kernel_rfl) rfl rfl (by decide) (Pu_assign rfl rfl) (AH_done (by kernel_rfl) (X_then ?_)))
        refine W_seq ?_
        refine W_seq ?_
        refine W.pre (K' := [(0, _), (1, _), (3, _), (4, _), (5, _), (6, _)]) (L' := [(0, _), (200, _), (201, _), (202, _), (203, _), (251, _), (252, _)]) ?_ ⟨rfl, ⟨rfl, ⟨rfl, ⟨rfl, ⟨rfl, ⟨rfl, trivial⟩⟩⟩⟩⟩⟩ ⟨rfl, ⟨rfl, ⟨rfl, ⟨rfl, ⟨rfl, ⟨rfl, ⟨rfl, trivial⟩⟩⟩⟩⟩⟩⟩
        refine W_regL (WL_pure rfl rfl (by decide) (Pu_move rfl rfl) (WL_nil (X_then ?_)))
        refine W_cond rfl (fun hc16 => ?_) (fun hc16 => ?_)
        ·
          obtain ⟨p, hf⟩ := Option.isSome_iff_exists.1 hc16
          have htd := totE_del hf
          have hud := usedE_del p.1.src hf
          rw [if_pos rfl] at hud
          have hle := usedE_le p.1.src es
          have hB : getB k es = p.1 := by unfold getB; rw [hf]; rfl
          have hD : datB k es = p.2 := by unfold datB; rw [hf]; rfl
          rw [hB]
          refine W_seq ?_
          refine W.pre (K' := [(0, _), (1, _), (3, _), (4, _), (5, _), (6, _), (16, _)]) (L' := [(0, _), (200, _), (201, _), (202, _), (203, _), (251, _), (252, _)]) ?_ ⟨rfl, ⟨rfl, ⟨rfl, ⟨rfl, ⟨rfl, ⟨rfl, ⟨rfl, trivial⟩⟩⟩⟩⟩⟩⟩ ⟨rfl, ⟨rfl, ⟨rfl, ⟨rfl, ⟨rfl, ⟨rfl, ⟨rfl, trivial⟩⟩⟩⟩⟩⟩⟩
          refine W_draw (N := 6) (by kernel_rfl) rfl [(0, _), (200, _), (251, _), (252, _)] ⟨rfl, ⟨rfl, ⟨rfl, ⟨rfl, trivial⟩⟩⟩⟩ ?_
          refine (AH_take 0 rfl (by kernel_rfl) (by kernel_rfl) (by kernel_rfl) rfl rfl (by decide) (Pu_move rfl rfl) (AH_take 1 rfl (by kernel_rfl) (by kernel_rfl) (by kernel_rfl) rfl rfl (by decide) (Pu_nilCheck rfl rfl) (AH_take 2 rfl (by kernel_rfl) (by kernel_rfl) (by kernel_rfl) rfl rfl (by decide) (Pu_fieldAddrB (off := 3) rfl rfl (by kernel_rfl)) (AH_take 3 rfl (by kernel_rfl) (by kernel_rfl) (by kernel_rfl) rfl rfl (by decide) (Pu_loadB (r := 200) rfl Try.isAgg58 rfl rfl rfl) (AH_take 4 rfl (by kernel_rfl) (by kernel_rfl) (by kernel_rfl) rfl rfl (by decide) (Pu_loadBN (r := 251) rfl Try.isAgg36 Try.sizeOf36 rfl rfl ((bs_length _).trans hk) (load_all ((bs_length _).trans hk))) (AH_ready [5] (by kernel_rfl) (by decide) ?_))))))
          refine AHs_cons0 rfl rfl rfl (OpT_deleteQ (r := 201) keyB rfl Try.underlying58 rfl rfl hk rfl hleft ?_) ?_
          ·
            refine ⟨⟨rfl, ⟨rfl, ⟨rfl, ⟨rfl, trivial⟩⟩⟩⟩, ?_⟩
            refine (AH_done (by kernel_rfl) (X_then ?_))
            refine W.pre (K' := [(0, _), (1, _), (3, _), (4, _), (5, _), (6, _), (16, _)]) (L' := [(0, _), (200, _), (201, _), (202, _), (203, _), (251, _), (252, _)]) ?_ ⟨rfl, ⟨rfl, ⟨rfl, ⟨rfl, ⟨rfl, ⟨rfl, ⟨rfl, trivial⟩⟩⟩⟩⟩⟩⟩ ⟨rfl, ⟨rfl, ⟨rfl, ⟨rfl, ⟨rfl, ⟨rfl, ⟨rfl, trivial⟩⟩⟩⟩⟩⟩⟩
            refine W_regL (WL_pure rfl rfl (by decide) (Pu_move rfl rfl) (WL_pure rfl rfl (by decide) (Pu_fieldAddrB (off := 33) rfl rfl (by kernel_rfl)) (WL_pure rfl rfl (by decide) (Pu_loadB (r := 252) rfl Try.isAgg3 rfl rfl (bk_src p.1.len)) (WL_pure rfl rfl (by decide) (Pu_fieldAddrB (off := 32) rfl rfl (by kernel_rfl)) (WL_pure rfl rfl (by decide) (Pu_loadB (r := 252) rfl Try.isAgg38 rfl rfl (bk_data p.1.len)) (WL_pure rfl rfl (by decide) (Pu_len (r := 203) rfl Try.runUnderlying38 rfl rfl (fun h hp => hp p (findE_some hf).1)) (WL_pure rfl rfl (by decide) (Pu_un rfl rfl (run_neg _ (by omega))) (WL_cons rfl rfl (by decide) (OpT_call 300 [0, 201, 203, 251, 252] [200, 202] rfl Try.call32 rfl rfl rfl (by decide) (by decide) (count_spec g gm gu soon room quota _ _ p.1.src _ us (hu p.1.src) (by omega) (by omega) (by omega) _) (fun v29 Ps29 hR29 => ?_))))))))))
            obtain ⟨rfl, rfl⟩ := hR29
            skip
            refine (WL_nil (X_then ?_))
            refine W_seq ?_
            refine W.pre (K' := [(0, _), (1, _), (3, _), (4, _), (5, _), (6, _), (16, _)]) (L' := [(0, _), (201, _), (203, _), (251, _), (252, _), (300, _), (301, _)]) ?_ ⟨rfl, ⟨rfl, ⟨rfl, ⟨rfl, ⟨rfl, ⟨rfl, ⟨rfl, trivial⟩⟩⟩⟩⟩⟩⟩ ⟨rfl, ⟨rfl, ⟨rfl, ⟨rfl, ⟨rfl, ⟨rfl, ⟨rfl, trivial⟩⟩⟩⟩⟩⟩⟩
            refine W_regL (WL_pure rfl rfl (by decide) (Pu_move rfl rfl) (WL_pure rfl rfl (by decide) (Pu_assign rfl rfl) (WL_nil (X_then ?_))))
            refine W_ret ?_
            refine X_turn (P' := datP (delE k es)) 203 rfl (fun h hp => datP_sub (fun q hq => (delE_sub k es).subset hq) hp) ?_
            refine X_turn (P' := areaB g soon room quota gm gu (totE (delE k es) : Int)) 300 rfl (fun h hp => by rw [show ((totE (delE k es) : Nat) : Int) = (totE es : Int) + -(p.2.length : Int) by omega]; exact hp) ?_
            refine X_turn (P' := mapB gm (entsOf (delE k es)) (itDel it)) 201 rfl (fun h hp => by rw [← delQ_ents]; exact hp) ?_
            refine X_join [300, 201, 301, 203] 1 (rawP g room quota soon (delE k es) (itDel it)) rfl (by decide) (fun h hs => closeRaw (hg.del k) (used_del hu hf) hs) ?_
            exact X_ret [1] (Ps := [_]) (res1 Try.results18 rfl) rfl (by decide) ⟨rfl, rfl⟩
          exact AHs_nil
        ·
          have hf : findE k es = none := by simpa using hc16
          refine W_skip (X_then ?_)
          refine W_seq ?_
          refine W.pre (K' := [(0, _), (1, _), (3, _), (4, _), (5, _), (6, _), (16, _)]) (L' := [(0, _), (200, _), (201, _), (202, _), (203, _), (251, _), (252, _)]) ?_ ⟨rfl, ⟨rfl, ⟨rfl, ⟨rfl, ⟨rfl, ⟨rfl, ⟨rfl, trivial⟩⟩⟩⟩⟩⟩⟩ ⟨rfl, ⟨rfl, ⟨rfl, ⟨rfl, ⟨rfl, ⟨rfl, ⟨rfl, trivial⟩⟩⟩⟩⟩⟩⟩
          refine W_regL (WL_pure rfl rfl (by decide) (Pu_move rfl rfl) (WL_pure rfl rfl (by decide) (Pu_assign rfl rfl) (WL_nil (X_then ?_))))
          refine W_ret ?_
          rw [(findE_none hf).2]
          refine X_turn 201 rfl (fun h hp => mapQ_itDel hp) ?_
          refine X_join [200, 201, 202, 203] 1 (rawP g room quota soon es (itDel it)) rfl (by decide) (fun h hs => closeRaw hg hu hs) ?_
          exact X_ret [1] (Ps := [_]) (res1 Try.results18 rfl) rfl (by decide) ⟨rfl, rfl⟩
      exact AHs_nil
    exact AHs_nil
  exact AHs_nil
theorem used_raw (g : Nat) (room quota soon src : Int) (es : List EB) (F : HP) : CallsS Try.prog 16 #[.pointer (some ⟨g, 0, none⟩), .int .i64 src] F [rawP g room quota soon es none] (fun r Ps => r = .int .i64 (usedE src es : Int) ∧ Ps = [rawP g room quota soon es none]) := by
  refine callsS_enter Try.func16 rfl Try.ntmps16 (by simp) (fun E => ?_)
  refine W_seq ?_
  refine W.pre (K' := [(0, _), (1, _)]) (L' := [(0, _), (1, _)]) ?_ ⟨rfl, ⟨rfl, trivial⟩⟩ ⟨rfl, ⟨rfl, trivial⟩⟩
  refine W_openRaw 1 200 rfl (fun gm gu us hg hu => ?_)
  have hfit := hg.fits
  have hmost := hg.most
  have hmq := hg.mostq
  refine W_regL (WL_pure rfl rfl (by decide) (Pu_assign rfl rfl) (WL_nil (X_then ?_)))
  refine W_seq ?_
  refine W.pre (K' := [(0, _), (1, _), (4, _)]) (L' := [(0, _), (200, _), (201, _), (202, _), (203, _)]) ?_ ⟨rfl, ⟨rfl, ⟨rfl, trivial⟩⟩⟩ ⟨rfl, ⟨rfl, ⟨rfl, ⟨rfl, ⟨rfl, trivial⟩⟩⟩⟩⟩
  refine W_regL (WL_pure rfl rfl (by decide) (Pu_move rfl rfl) (WL_pure rfl rfl (by decide) (Pu_nilCheck rfl rfl) (WL_pure rfl rfl (by decide) (Pu_fieldAddrB (off := 4) rfl rfl (by kernel_rfl)) (WL_pure rfl rfl (by decide) (Pu_loadB (r := 200) rfl Try.isAgg59 rfl rfl rfl) (WL_pure rfl rfl (by decide) (Pu_move rfl rfl) (WL_pure rfl rfl (by decide) (Pu_lookU (r := 202) rfl rfl rfl rfl (hu src)) (WL_pure rfl rfl (by decide) (Pu_assign rfl rfl) (WL_nil (X_then ?_)))))))))
  refine W_ret ?_
  refine X_join [200, 201, 202, 203] 1 (rawP g room quota soon es none) rfl (by decide) (fun h hs => closeRaw hg hu hs) ?_
  exact X_ret [1] (Ps := [_]) (res1 Try.results16 rfl) rfl (by decide) ⟨rfl, rfl⟩
theorem total_raw (g : Nat) (room quota soon : Int) (es : List EB) (F : HP) : CallsS Try.prog 17 #[.pointer (some ⟨g, 0, none⟩)] F [rawP g room quota soon es none] (fun r Ps => r = .int .i64 (totE es : Int) ∧ Ps = [rawP g room quota soon es none]) := by
  refine callsS_enter Try.func17 rfl Try.ntmps17 (by simp) (fun E => ?_)
  refine W_seq ?_
  refine W.pre (K' := [(0, _)]) (L' := [(0, _), (1, _)]) ?_ ⟨rfl, trivial⟩ ⟨rfl, ⟨rfl, trivial⟩⟩
  refine W_openRaw 1 200 rfl (fun gm gu us hg hu => ?_)
  have hfit := hg.fits
  have hmost := hg.most
  have hmq := hg.mostq
  refine W_regL (WL_pure rfl rfl (by decide) (Pu_assign rfl rfl) (WL_nil (X_then ?_)))
  refine W_seq ?_
  refine W.pre (K' := [(0, _), (2, _)]) (L' := [(0, _), (200, _), (201, _), (202, _), (203, _)]) ?_ ⟨rfl, ⟨rfl, trivial⟩⟩ ⟨rfl, ⟨rfl, ⟨rfl, ⟨rfl, ⟨rfl, trivial⟩⟩⟩⟩⟩
  refine W_regL (WL_pure rfl rfl (by decide) (Pu_move rfl rfl) (WL_pure rfl rfl (by decide) (Pu_nilCheck rfl rfl) (WL_pure rfl rfl (by decide) (Pu_fieldAddrB (off := 5) rfl rfl (by kernel_rfl)) (WL_pure rfl rfl (by decide) (Pu_loadB (r := 200) rfl Try.isAgg3 rfl rfl rfl) (WL_pure rfl rfl (by decide) (Pu_assign rfl rfl) (WL_nil (X_then ?_)))))))
  refine W_ret ?_
  refine X_join [200, 201, 202, 203] 1 (rawP g room quota soon es none) rfl (by decide) (fun h hs => closeRaw hg hu hs) ?_
  exact X_ret [1] (Ps := [_]) (res1 Try.results17 rfl) rfl (by decide) ⟨rfl, rfl⟩
end Go.Proofs.Ytjopgnkffhfhkaa
/- Areas: swept. -/
namespace Go.Proofs.Ytjopgnkffhfhkaa
open Go.RowKit
set_option linter.unusedVariables false
set_option linter.unusedSimpArgs false
set_option maxRecDepth 8000
/-- A key out of a list in which it stands once. -/
theorem pick_keys {es : List EB} {kept rest : List EB} {left left' : List (List UInt8 × Value)} {p : List UInt8 × Value} (hn : (es.map (·.1.key)).Nodup) (h0 : es.Perm (kept ++ rest)) (h1 : left.Perm (entsOf rest)) (h2 : left.Perm (p :: left')) :
    ∃ b rest', p = (b.1.key, encB b.1) ∧ rest.Perm (b :: rest') ∧ left'.Perm (entsOf rest') ∧ es.Perm (b :: (kept ++ rest')) ∧ (∀ q ∈ left', q.1 ≠ b.1.key) ∧ findE b.1.key es = some b := by
  have hm : p ∈ entsOf rest := (h2.symm.trans h1).mem_iff.1 (by simp)
  unfold entsOf mbs at hm
  rw [List.map_map] at hm
  obtain ⟨b, hb, rfl⟩ := List.mem_map.1 hm
  obtain ⟨a, c, rfl⟩ := List.append_of_mem hb
  have hp1 : (a ++ b :: c).Perm (b :: (a ++ c)) := List.perm_middle
  have h3 : (entsOf (a ++ b :: c)).Perm ((b.1.key, encB b.1) :: entsOf (a ++ c)) := by
    unfold entsOf mbs
    exact List.Perm.map _ (List.Perm.map _ hp1)
  have h4 : left'.Perm (entsOf (a ++ c)) := (h2.symm.trans (h1.trans h3)).cons_inv
  have h5 : es.Perm (b :: (kept ++ (a ++ c))) := h0.trans ((List.Perm.append_left kept hp1).trans List.perm_middle)
  have hnd : ((b :: (kept ++ (a ++ c))).map (·.1.key)).Nodup := (h5.map _).nodup_iff.1 hn
  rw [List.map_cons, List.nodup_cons] at hnd
  refine ⟨b, a ++ c, rfl, hp1, h4, h5, fun q hq he => hnd.1 ?_, ?_⟩
  · have := h4.mem_iff.1 hq
    unfold entsOf mbs at this
    rw [List.map_map] at this
    obtain ⟨r, hr, rfl⟩ := List.mem_map.1 this
    rw [← he]
    exact List.mem_map.2 ⟨r, by simp at hr ⊢; exact .inr hr, rfl⟩
  · cases hf : findE b.1.key es with
    | none => exact absurd rfl ((findE_none hf).1 b (h5.mem_iff.2 (by simp)))
    | some q =>
      obtain ⟨q1, q2⟩ := findE_some hf
      rcases List.mem_cons.1 (h5.mem_iff.1 q1) with rfl | hq
      · rfl
      · exact absurd (List.mem_map.2 ⟨q, hq, q2⟩) hnd.1
def liveE (now : Int) (es : List EB) : List EB := es.filter fun p => decide (now < p.1.exp)
theorem liveE_perm {now : Int} {a b : List EB} (h : a.Perm b) : (liveE now a).Perm (liveE now b) := h.filter _
theorem liveE_app (now : Int) (a b : List EB) : liveE now (a ++ b) = liveE now a ++ liveE now b := by simp [liveE]
theorem liveE_all {now : Int} {a : List EB} (h : ∀ p ∈ a, now < p.1.exp) : liveE now a = a := List.filter_eq_self.2 fun p hp => by simpa using h p hp
theorem liveE_cons (now : Int) (p : EB) (a : List EB) : liveE now (p :: a) = if now < p.1.exp then p :: liveE now a else liveE now a := by
  unfold liveE; rw [List.filter_cons]; simp
theorem RawG.perm {room quota : Int} {a b : List EB} (hg : RawG room quota a) (h : a.Perm b) : RawG room quota b where
  nodup := (h.map _).nodup_iff.1 hg.nodup
  fits := by rw [← totE_perm h]; exact hg.fits
  most := hg.most
  mostq := hg.mostq
  posq := hg.posq
theorem sweep_raw (g : Nat) (room quota soon now : Int) (es : List EB) (hs : ∀ p ∈ es, soon ≤ p.1.exp) (hl : es.length ≤ 1000000000000) (F : HP) : CallsS Try.prog 11 #[.pointer (some ⟨g, 0, none⟩), .int .i64 now] F [rawP g room quota soon es none] (fun r Ps => ∃ es2 soon2, r = .int .i64 ((es.length : Int) - (es2.length : Int)) ∧ es2.Perm (liveE now es) ∧ (∀ p ∈ es2, soon2 ≤ p.1.exp) ∧ Ps = [rawP g room quota soon2 es2 none]) := by
  refine callsS_enter Try.func11 rfl Try.ntmps11 (by simp) (fun E => ?_)
  refine W_seq ?_
  refine W.pre (K' := [(0, _), (1, _)]) (L' := [(0, _), (1, _)]) ?_ ⟨rfl, ⟨rfl, trivial⟩⟩ ⟨rfl, ⟨rfl, trivial⟩⟩
  refine W_regL (WL_pure rfl rfl (by decide) (Pu_assign rfl rfl) (WL_nil (X_then ?_)))
  refine W_seq ?_
  refine W.pre (K' := [(0, _), (1, _), (4, _)]) (L' := [(0, _), (1, _)]) ?_ ⟨rfl, ⟨rfl, ⟨rfl, trivial⟩⟩⟩ ⟨rfl, ⟨rfl, trivial⟩⟩
  refine W_openRaw 1 200 rfl (fun gm gu us hg hu => ?_)
  have hfit := hg.fits
  have hmost := hg.most
  have hmq := hg.mostq
  refine W_regL (WL_pure rfl rfl (by decide) (Pu_assign rfl rfl) (WL_nil (X_then ?_)))
  refine W_seq ?_
  refine W_seq ?_
  refine W.pre (K' := [(0, _), (1, _), (4, _), (5, _)]) (L' := [(0, _), (200, _), (201, _), (202, _), (203, _)]) ?_ ⟨rfl, ⟨rfl, ⟨rfl, ⟨rfl, trivial⟩⟩⟩⟩ ⟨rfl, ⟨rfl, ⟨rfl, ⟨rfl, ⟨rfl, trivial⟩⟩⟩⟩⟩
  refine W_regL (WL_pure rfl rfl (by decide) (Pu_move rfl rfl) (WL_pure rfl rfl (by decide) (Pu_move rfl rfl) (WL_pure rfl rfl (by decide) (Pu_nilCheck rfl rfl) (WL_pure rfl rfl (by decide) (Pu_fieldAddrB (off := 0) rfl rfl (by kernel_rfl)) (WL_pure rfl rfl (by decide) (Pu_loadB (r := 200) rfl Try.isAgg3 rfl rfl rfl) (WL_pure rfl rfl (by decide) (Pu_bin rfl rfl rfl (run_lss _ _ _ _ _ _)) (WL_nil (X_then ?_))))))))
  refine W_cond rfl (fun hc13 => ?_) (fun hc13 => ?_)
  ·
    have hlt := of_decide_eq_true hc13
    refine W_seq ?_
    refine W.pre (K' := [(0, _), (1, _), (4, _), (5, _), (13, _)]) (L' := [(0, _), (200, _), (201, _), (202, _), (203, _)]) ?_ ⟨rfl, ⟨rfl, ⟨rfl, ⟨rfl, ⟨rfl, trivial⟩⟩⟩⟩⟩ ⟨rfl, ⟨rfl, ⟨rfl, ⟨rfl, ⟨rfl, trivial⟩⟩⟩⟩⟩
    refine W_regL (WL_pure rfl rfl (by decide) (Pu_move rfl rfl) (WL_pure rfl rfl (by decide) (Pu_assign rfl rfl) (WL_nil (X_then ?_))))
    refine W_ret (X_then_ret ?_)
    refine X_join [200, 201, 202, 203] 1 (rawP g room quota soon es none) rfl (by decide) (fun h hs => closeRaw hg hu hs) ?_
    have hall : liveE now es = es := liveE_all fun p hp => by have := hs p hp; omega
    exact X_ret [1] (Ps := [_]) (res1 Try.results11 rfl) rfl (by decide) ⟨es, soon, by congr 1; omega, by rw [hall], hs, rfl⟩
  ·
    have hge := of_decide_eq_false hc13
    refine W_skip (X_then ?_)
    refine W_seq ?_
    refine W.pre (K' := [(0, _), (1, _), (4, _), (5, _), (13, _)]) (L' := [(0, _), (200, _), (201, _), (202, _), (203, _)]) ?_ ⟨rfl, ⟨rfl, ⟨rfl, ⟨rfl, ⟨rfl, trivial⟩⟩⟩⟩⟩ ⟨rfl, ⟨rfl, ⟨rfl, ⟨rfl, ⟨rfl, trivial⟩⟩⟩⟩⟩
    refine W_regL (WL_pure rfl rfl (by decide) (Pu_move rfl rfl) (WL_pure rfl rfl (by decide) (Pu_nilCheck rfl rfl) (WL_pure rfl rfl (by decide) (Pu_fieldAddrB (off := 0) rfl rfl (by kernel_rfl)) (WL_cons0 rfl rfl (OpT_storeB1 (r := 200) rfl Try.sizeOf3 rfl rfl rfl rfl (by simp) rfl ?_)))))
    refine (WL_nil (X_then ?_))
    refine W_seq ?_
    refine W_seq ?_
    refine W.pre (K' := [(0, _), (1, _), (4, _), (5, _), (13, _)]) (L' := [(0, _), (200, _), (201, _), (202, _), (203, _)]) ?_ ⟨rfl, ⟨rfl, ⟨rfl, ⟨rfl, ⟨rfl, trivial⟩⟩⟩⟩⟩ ⟨rfl, ⟨rfl, ⟨rfl, ⟨rfl, ⟨rfl, trivial⟩⟩⟩⟩⟩
    refine W_regL (WL_pure rfl rfl (by decide) (Pu_move rfl rfl) (WL_pure rfl rfl (by decide) (Pu_nilCheck rfl rfl) (WL_pure rfl rfl (by decide) (Pu_fieldAddrB (off := 3) rfl rfl (by kernel_rfl)) (WL_pure rfl rfl (by decide) (Pu_loadB (r := 200) rfl Try.isAgg58 rfl rfl rfl) (WL_cons rfl rfl (by decide) (OpT_rangeQ (r := 201) rfl Try.underlying58 rfl rfl (fun it => (WL_nil (X_then ?_)))))))))
    refine W_block ?_
    refine W_join [200, 201, 202, 203] 1 (rawP g room quota 9223372036854775807 es (some (it, entsOf es, none))) rfl (by decide) (fun h hs => closeRaw hg hu hs) ?_
    refine W_loop (α := List EB × List EB × List EB × List (List UInt8 × Value) × Int) (fun x => [(0, .pointer (some ⟨g, 0, none⟩)), (1, .int .i64 now), (5, .int .i64 ((es.length : Int) - (x.1.length : Int))), (22, .pointer (some ⟨it, 0, none⟩))]) (fun x => [(0, F), (1, rawP g room quota x.2.2.2.2 x.1 (some (it, x.2.2.2.1, none)))]) (fun x => x.1.Perm (x.2.1 ++ x.2.2.1) ∧ x.2.2.2.1.Perm (entsOf x.2.2.1) ∧ (∀ p ∈ x.2.1, now < p.1.exp ∧ x.2.2.2.2 ≤ p.1.exp) ∧ (liveE now es).Perm (x.2.1 ++ liveE now x.2.2.1) ∧ x.1.length ≤ es.length) (fun x => x.2.2.1.length) ((es, [], es, entsOf es, 9223372036854775807)) ⟨List.Perm.refl _, List.Perm.refl _, by simp, List.Perm.refl _, Nat.le_refl _⟩ ⟨rfl, rfl, (by show look _ 5 = some (Value.int .i64 ((es.length : Int) - (es.length : Int))); rw [Int.sub_self]; rfl), rfl, trivial⟩ ⟨rfl, ⟨rfl, trivial⟩⟩ (fun x hx => ?_)
    obtain ⟨hx1, hx2, hx3, hx4, hx5⟩ := hx
    refine W_seq ?_
    refine W.pre (K' := [(0, _), (1, _), (5, _), (22, _)]) (L' := [(0, _), (1, _)]) ?_ ⟨rfl, ⟨rfl, ⟨rfl, ⟨rfl, trivial⟩⟩⟩⟩ ⟨rfl, ⟨rfl, trivial⟩⟩
    refine W_openRaw 1 500 rfl (fun gm gu us hg hu => ?_)
    have hfit := hg.fits
    have hmost := hg.most
    have hmq := hg.mostq
    refine W_regL (WL_cons rfl rfl (by decide) (OpT_nextQ (r := 501) keyB rfl rfl rfl (fun hnil => ?_) (fun p left hpe hpm => ?_)))
    ·
      have hr0 : x.2.2.1 = [] := by rw [hnil] at hx2; have := hx2.length_eq; simp only [entsOf, mbs, List.length_nil, List.length_map] at this; exact List.length_eq_zero_iff.1 this.symm
      rw [hr0, List.append_nil] at hx1
      rw [hr0] at hx4
      have hx4 : (liveE now es).Perm x.2.1 := by simpa [liveE] using hx4
      refine (WL_pure rfl rfl (by decide) (Pu_extract rfl rfl rfl) (WL_nil (X_then ?_)))
      refine W_seq ?_
      refine W_false rfl (rfl) ?_
      refine W_exit (X_then_exit (X_then_exit (X_block_exit (X_then ?_))))
      refine W_seq ?_
      refine W.pre (K' := [(0, _), (1, _), (5, _), (22, _), (24, _)]) (L' := [(0, _), (500, _), (501, _), (502, _), (503, _)]) ?_ ⟨rfl, ⟨rfl, ⟨rfl, ⟨rfl, ⟨rfl, trivial⟩⟩⟩⟩⟩ ⟨rfl, ⟨rfl, ⟨rfl, ⟨rfl, ⟨rfl, trivial⟩⟩⟩⟩⟩
      refine W_regL (WL_pure rfl rfl (by decide) (Pu_move rfl rfl) (WL_pure rfl rfl (by decide) (Pu_assign rfl rfl) (WL_nil (X_then ?_))))
      refine W_ret ?_
      refine X_turn 501 rfl (fun h hp => mapQ_none hp) ?_
      refine X_join [500, 501, 502, 503] 1 (rawP g room quota x.2.2.2.2 x.1 none) rfl (by decide) (fun h hs => closeRaw hg hu hs) ?_
      exact X_ret [1] (Ps := [_]) (res1 Try.results11 rfl) rfl (by decide) ⟨x.1, x.2.2.2.2, rfl, hx1.trans hx4.symm, fun p hp => (hx3 p (hx1.mem_iff.1 hp)).2, rfl⟩
    ·
      obtain ⟨b, rest, rfl, hb2, hb3, hb4, hb5, hb6⟩ := pick_keys hg.nodup hx1 hx2 hpm
      have hbl := hb2.length_eq
      simp only [List.length_cons] at hbl
      refine (WL_pure rfl rfl (by decide) (Pu_extract rfl rfl rfl) (WL_nil (X_then ?_)))
      refine W_seq ?_
      refine W_true rfl (rfl) ?_
      refine W_skip (X_then ?_)
      refine W_block ?_
      refine W_seq ?_
      refine W.pre (K' := [(0, _), (1, _), (5, _), (22, _), (24, _)]) (L' := [(0, _), (500, _), (501, _), (502, _), (503, _)]) ?_ ⟨rfl, ⟨rfl, ⟨rfl, ⟨rfl, ⟨rfl, trivial⟩⟩⟩⟩⟩ ⟨rfl, ⟨rfl, ⟨rfl, ⟨rfl, ⟨rfl, trivial⟩⟩⟩⟩⟩
      refine W_regL (WL_pure rfl rfl (by decide) (Pu_entryQ (r := 501) rfl rfl rfl) (WL_pure rfl rfl (by decide) (Pu_extract rfl rfl rfl) (WL_pure rfl rfl (by decide) (Pu_extract rfl rfl rfl) (WL_cons rfl rfl (by decide) (OpT_alloc (r := 551) rfl (zero_run (by kernel_rfl : (Try.prog.info? 36).bind (·.zero) = some (.agg (bs zeroId).toArray))) rfl (fun g551 => (WL_cons rfl rfl (by decide) (OpT_alloc (r := 552) rfl (zero_run (by kernel_rfl : (Try.prog.info? 40).bind (·.zero) = some (.agg (bkC zeroId (.slice none 0 0) 0 0).toArray))) rfl (fun g552 => (WL_cons0 rfl rfl (OpT_storeAll (r := 551) rfl Try.sizeOf36 rfl rfl rfl rfl ((bs_length _).trans b.1.len) (bs_one _) ?_)))))))))))
      refine (WL_cons0 rfl rfl (OpT_storeAll (r := 552) rfl Try.sizeOf40 rfl rfl rfl (bkC_length rfl) (bvC_length _) (bvC_one _) ?_))
      refine (WL_nil (X_then ?_))
      refine W_seq ?_
      refine W_seq ?_
      refine W.pre (K' := [(0, _), (1, _), (5, _), (6, _), (7, _), (22, _), (24, _)]) (L' := [(0, _), (500, _), (501, _), (502, _), (503, _), (551, _), (552, _)]) ?_ ⟨rfl, ⟨rfl, ⟨rfl, ⟨rfl, ⟨rfl, ⟨rfl, ⟨rfl, trivial⟩⟩⟩⟩⟩⟩⟩ ⟨rfl, ⟨rfl, ⟨rfl, ⟨rfl, ⟨rfl, ⟨rfl, ⟨rfl, trivial⟩⟩⟩⟩⟩⟩⟩
      refine W_regL (WL_pure rfl rfl (by decide) (Pu_fieldAddrB (off := 34) rfl rfl (by kernel_rfl)) (WL_pure rfl rfl (by decide) (Pu_loadB (r := 552) rfl Try.isAgg3 rfl rfl (bk_exp b.1.len)) (WL_pure rfl rfl (by decide) (Pu_move rfl rfl) (WL_pure rfl rfl (by decide) (Pu_bin rfl rfl rfl (run_leq _ _ _ _ _ _)) (WL_nil (X_then ?_))))))
      refine W_cond rfl (fun hc31 => ?_) (fun hc31 => ?_)
      ·
        have hle := of_decide_eq_true hc31
        have hfp := find_perm hb6
        have hdp := (hfp.symm.trans hb4).cons_inv
        have hdl := hfp.length_eq
        simp only [List.length_cons] at hdl
        have hlv := liveE_perm (now := now) hb2
        rw [liveE_cons, if_neg (by omega)] at hlv
        refine W_seq ?_
        refine W.pre (K' := [(0, _), (1, _), (5, _), (6, _), (7, _), (22, _), (24, _), (31, _)]) (L' := [(0, _), (500, _), (501, _), (502, _), (503, _), (551, _), (552, _)]) ?_ ⟨rfl, ⟨rfl, ⟨rfl, ⟨rfl, ⟨rfl, ⟨rfl, ⟨rfl, ⟨rfl, trivial⟩⟩⟩⟩⟩⟩⟩⟩ ⟨rfl, ⟨rfl, ⟨rfl, ⟨rfl, ⟨rfl, ⟨rfl, ⟨rfl, trivial⟩⟩⟩⟩⟩⟩⟩
        refine W_join [500, 501, 502, 503] 1 (rawP g room quota x.2.2.2.2 x.1 (some (it, left, some (b.1.key, encB b.1)))) rfl (by decide) (fun h hs => closeRaw hg hu hs) ?_
        refine W_regL (WL_pure rfl rfl (by decide) (Pu_move rfl rfl) (WL_pure rfl rfl (by decide) (Pu_loadBN (r := 551) rfl Try.isAgg36 Try.sizeOf36 rfl rfl ((bs_length _).trans b.1.len) (load_all ((bs_length _).trans b.1.len))) (WL_cons rfl rfl (by decide) (OpT_call 600 [0, 551, 552] [1] rfl Try.call18 rfl rfl rfl (by decide) (by decide) (drop_raw g room quota x.2.2.2.2 x.1 (some (it, left, some (b.1.key, encB b.1))) b.1.key b.1.len (fun i hi => by injection hi with hi; subst hi; exact hb5) _) (fun v34 Ps34 hR34 => ?_)))))
        obtain ⟨rfl, rfl⟩ := hR34
        refine (WL_nil (X_then ?_))
        refine W_seq ?_
        refine W.pre (K' := [(0, _), (1, _), (5, _), (6, _), (7, _), (22, _), (24, _), (31, _)]) (L' := [(0, _), (551, _), (552, _), (600, _)]) ?_ ⟨rfl, ⟨rfl, ⟨rfl, ⟨rfl, ⟨rfl, ⟨rfl, ⟨rfl, ⟨rfl, trivial⟩⟩⟩⟩⟩⟩⟩⟩ ⟨rfl, ⟨rfl, ⟨rfl, ⟨rfl, trivial⟩⟩⟩⟩
        refine W_regL (WL_pure rfl rfl (by decide) (Pu_move rfl rfl) (WL_pure rfl rfl (by decide) (Pu_bin rfl rfl rfl (run_add _ _ _ _ _ (by omega))) (WL_pure rfl rfl (by decide) (Pu_assign rfl rfl) (WL_nil (X_then ?_)))))
        refine W_exit (X_then_exit (X_block_exit ?_))
        refine X_ren 600 1 rfl ?_
        exact X_round (delE b.1.key x.1, x.2.1, rest, left, x.2.2.2.2) ⟨hdp, hb3, hx3, hx4.trans (List.Perm.append_left _ hlv), by dsimp only; omega⟩ (by dsimp only; omega) ⟨rfl, rfl, (by show look _ 5 = some (Value.int .i64 ((es.length : Int) - ((delE b.1.key x.1).length : Int))); rw [show ((es.length : Int) - ((delE b.1.key x.1).length : Int)) = (es.length : Int) - (x.1.length : Int) + 1 by omega]; rfl), rfl, trivial⟩ ⟨rfl, rfl, trivial⟩
      ·
        have hle := of_decide_eq_false hc31
        have hlv := liveE_perm (now := now) hb2
        rw [liveE_cons, if_pos (by omega)] at hlv
        have hkp : ∀ p ∈ x.2.1 ++ [b], now < p.1.exp ∧ min x.2.2.2.2 b.1.exp ≤ p.1.exp := by
          intro p hp
          rcases List.mem_append.1 hp with hp | hp
          · have := hx3 p hp; exact ⟨this.1, by omega⟩
          · rw [List.mem_singleton.1 hp]; exact ⟨by omega, by omega⟩
        refine W_skip (X_then ?_)
        refine W.pre (K' := [(0, _), (1, _), (5, _), (6, _), (7, _), (22, _), (24, _), (31, _)]) (L' := [(0, _), (500, _), (501, _), (502, _), (503, _), (551, _), (552, _)]) ?_ ⟨rfl, ⟨rfl, ⟨rfl, ⟨rfl, ⟨rfl, ⟨rfl, ⟨rfl, ⟨rfl, trivial⟩⟩⟩⟩⟩⟩⟩⟩ ⟨rfl, ⟨rfl, ⟨rfl, ⟨rfl, ⟨rfl, ⟨rfl, ⟨rfl, trivial⟩⟩⟩⟩⟩⟩⟩
        refine W_draw (N := 11) (by kernel_rfl) rfl [(0, _), (551, _), (552, _)] ⟨rfl, ⟨rfl, ⟨rfl, trivial⟩⟩⟩ ?_
        refine (AH_take 0 rfl (by kernel_rfl) (by kernel_rfl) (by kernel_rfl) rfl rfl (by decide) (Pu_move rfl rfl) (AH_take 1 rfl (by kernel_rfl) (by kernel_rfl) (by kernel_rfl) rfl rfl (by decide) (Pu_move rfl rfl) (AH_take 2 rfl (by kernel_rfl) (by kernel_rfl) (by kernel_rfl) rfl rfl (by decide) (Pu_nilCheck rfl rfl) (AH_take 3 rfl (by kernel_rfl) (by kernel_rfl) (by kernel_rfl) rfl rfl (by decide) (Pu_fieldAddrB (off := 0) rfl rfl (by kernel_rfl)) (AH_take 5 rfl (by kernel_rfl) (by kernel_rfl) (by kernel_rfl) rfl rfl (by decide) (Pu_fieldAddrB (off := 34) rfl rfl (by kernel_rfl)) (AH_take 6 rfl (by kernel_rfl) (by kernel_rfl) (by kernel_rfl) rfl rfl (by decide) (Pu_loadB (r := 552) rfl Try.isAgg3 rfl rfl (bk_exp b.1.len)) (AH_ready [4] (by kernel_rfl) (by decide) ?_)))))))
        refine AHs_cons rfl rfl rfl (by decide) (OpT_run (Pu_loadB (r := 500) rfl Try.isAgg3 rfl rfl rfl) ⟨⟨rfl, ⟨rfl, ⟨rfl, trivial⟩⟩⟩, ?_⟩) ?_
        ·
          refine (AH_take 7 rfl (by kernel_rfl) (by kernel_rfl) (by kernel_rfl) rfl rfl (by decide) (Pu_min rfl rfl rfl) (AH_take 8 rfl (by kernel_rfl) (by kernel_rfl) (by kernel_rfl) rfl rfl (by decide) (Pu_nilCheck rfl rfl) (AH_take 9 rfl (by kernel_rfl) (by kernel_rfl) (by kernel_rfl) rfl rfl (by decide) (Pu_fieldAddrB (off := 0) rfl rfl (by kernel_rfl)) (AH_ready [10] (by kernel_rfl) (by decide) ?_))))
          refine AHs_cons0 rfl rfl rfl (OpT_storeB1 (r := 500) rfl Try.sizeOf3 rfl rfl rfl rfl (by simp) rfl ?_) ?_
          ·
            refine ⟨⟨rfl, ⟨rfl, ⟨rfl, trivial⟩⟩⟩, ?_⟩
            refine (AH_done (by kernel_rfl) (X_block ?_))
            refine X_turn 501 rfl (fun h hp => mapQ_uncur hp) ?_
            refine X_join [500, 501, 502, 503] 1 (rawP g room quota (min x.2.2.2.2 b.1.exp) x.1 (some (it, left, none))) rfl (by decide) (fun h hs => closeRaw hg hu hs) ?_
            exact X_round (x.1, x.2.1 ++ [b], rest, left, min x.2.2.2.2 b.1.exp) ⟨by rw [List.append_assoc]; exact hx1.trans (List.Perm.append_left _ hb2), hb3, hkp, by rw [List.append_assoc]; exact hx4.trans (List.Perm.append_left _ hlv), hx5⟩ (by dsimp only; omega) ⟨rfl, rfl, rfl, rfl, trivial⟩ ⟨rfl, rfl, trivial⟩
          exact AHs_nil
        exact AHs_nil
end Go.Proofs.Ytjopgnkffhfhkaa
/- Areas: what they hold, in order; the object as one resource. -/
namespace Go.Proofs.Ytjopgnkffhfhkaa
open Go.RowKit
set_option linter.unusedVariables false
set_option linter.unusedSimpArgs false
theorem starL_le {Ps : List HP} {h : Hlt} (hs : starL Ps h) {φ : HP} (k : Nat) {P : HP} (hk : Ps[k]? = some P) (hφ : ∀ h', P h' → (∀ g o, h' g = some o → h g = some o) → φ h) : φ h := by
  obtain ⟨f, h1, _, h3⟩ := hs
  exact hφ _ (h1 k P hk) (fun g o ho => h3 k g o ho)
abbrev KL (a b : Bk) : Prop := ltK a.key b.key = true
abbrev SortA (B : List Bk) : Prop := B.Pairwise KL
theorem KL_irrefl (a : Bk) : ¬ KL a a := fun h => by simp [KL, ltK_irrefl] at h
theorem KL_trans {a b c : Bk} (h1 : KL a b) (h2 : KL b c) : KL a c := ltK_trans _ _ _ h1 h2
theorem sort_uniq : ∀ {a b : List Bk}, SortA a → SortA b → a.Perm b → a = b
  | [], b, _, _, h => (List.Perm.nil_eq h)
  | x :: a, [], _, _, h => absurd h.length_eq (by simp)
  | x :: a, y :: b, ha, hb, h => by
    have hxy : x = y := by
      rcases List.mem_cons.1 (h.mem_iff.1 (List.mem_cons_self)) with h1 | h1
      · exact h1
      · rcases List.mem_cons.1 (h.symm.mem_iff.1 (List.mem_cons_self)) with h2 | h2
        · exact h2.symm
        · exact absurd (KL_trans ((List.pairwise_cons.1 ha).1 _ h2) ((List.pairwise_cons.1 hb).1 _ h1)) (KL_irrefl _)
    subst hxy
    rw [sort_uniq (List.pairwise_cons.1 ha).2 (List.pairwise_cons.1 hb).2 h.cons_inv]
def keysA (B : List Bk) : List (List UInt8) := B.map (·.key)
def dropA (k : List UInt8) (B : List Bk) : List Bk := B.filter fun x => decide (x.key ≠ k)
def sweepA (now : Int) (B : List Bk) : List Bk := B.filter fun x => decide (now < x.exp)
def findA (k : List UInt8) (B : List Bk) : Option Bk := B.find? fun x => decide (x.key = k)
def upA (k : List UInt8) (e : Int) (x : Bk) : Bk := if x.key = k then { x with exp := max x.exp e } else x
def renewA (k : List UInt8) (e : Int) (B : List Bk) : List Bk := B.map (upA k e)
def insA (b : Bk) : List Bk → List Bk
  | [] => [b]
  | x :: B => if ltK x.key b.key = true then x :: insA b B else b :: x :: B
def totA (B : List Bk) : Nat := (B.map (·.data.length)).sum
def usedA (s : Int) (B : List Bk) : Nat := ((B.filter fun x => decide (x.src = s)).map (·.data.length)).sum
theorem totE_eq (es : List EB) : totE es = totA (es.map toBk) := by unfold totE totA; rw [List.map_map]; rfl
theorem usedE_eq (s : Int) (es : List EB) : usedE s es = usedA s (es.map toBk) := by unfold usedE usedA; rw [List.filter_map, List.map_map]; rfl
theorem totA_perm {a b : List Bk} (h : a.Perm b) : totA a = totA b := (h.map _).sum_nat
theorem usedA_perm {a b : List Bk} (s : Int) (h : a.Perm b) : usedA s a = usedA s b := ((h.filter _).map _).sum_nat
theorem insA_perm (b : Bk) : ∀ B : List Bk, (insA b B).Perm (b :: B)
  | [] => List.Perm.refl _
  | x :: B => by
    rw [insA]
    split
    · exact ((insA_perm b B).cons x).trans (List.Perm.swap _ _ _)
    · exact List.Perm.refl _
theorem insA_sort {b : Bk} : ∀ {B : List Bk}, SortA B → (∀ x ∈ B, x.key ≠ b.key ∧ x.key.length = b.key.length) → SortA (insA b B)
  | [], _, _ => List.pairwise_singleton _ _
  | x :: B, h, hk => by
    have h1 := (List.pairwise_cons.1 h).1
    rw [insA]
    split
    · rename_i hl
      refine List.pairwise_cons.2 ⟨fun y hy => ?_, insA_sort (List.pairwise_cons.1 h).2 fun y hy => hk y (by simp [hy])⟩
      rcases List.mem_cons.1 ((insA_perm b B).mem_iff.1 hy) with rfl | hy
      · exact hl
      · exact h1 y hy
    · rename_i hl
      have hbx : KL b x := by
        obtain ⟨h2, h3⟩ := hk x (by simp)
        cases hc : ltK b.key x.key with
        | true => exact hc
        | false => exact absurd (ltK_tri x.key b.key h3 (by simpa using hl) hc) h2
      refine List.pairwise_cons.2 ⟨fun y hy => ?_, h⟩
      rcases List.mem_cons.1 hy with rfl | hy
      · exact hbx
      · exact KL_trans hbx (h1 y hy)
theorem upA_key (k : List UInt8) (e : Int) (x : Bk) : (upA k e x).key = x.key := by unfold upA; split <;> rfl
theorem renewA_sort {k : List UInt8} {e : Int} {B : List Bk} (h : SortA B) : SortA (renewA k e B) := by
  unfold renewA SortA
  rw [List.pairwise_map]
  exact h.imp fun {a b} h => by unfold KL; rw [upA_key, upA_key]; exact h
theorem toBk_key (p : EB) : (toBk p).key = p.1.key := rfl
theorem toBk_len (p : EB) : (toBk p).key.length = 32 := p.1.len
theorem findE_A (k : List UInt8) : ∀ es : List EB, (findE k es).map toBk = findA k (es.map toBk)
  | [] => rfl
  | p :: es => by
    rw [findE, List.map_cons, findA, List.find?_cons]
    by_cases h : k = p.1.key
    · simp [h, toBk_key]
    · have h2 : ¬ (toBk p).key = k := fun e => h e.symm
      simp only [h, if_false, h2, decide_false]
      exact findE_A k es
theorem findA_perm {k : List UInt8} {a b : List Bk} (h : a.Perm b) (hn : (keysA a).Nodup) : findA k a = findA k b := by
  have key : ∀ {l : List Bk} {x : Bk}, findA k l = some x → x ∈ l ∧ x.key = k := fun {l x} hx => ⟨List.mem_of_find?_eq_some hx, by simpa using List.find?_some hx⟩
  have uniq : ∀ {l : List Bk}, (keysA l).Nodup → ∀ {x y : Bk}, x ∈ l → y ∈ l → x.key = y.key → x = y := by
    intro l
    induction l with
    | nil => intro _ x y hx; simp at hx
    | cons z l ih =>
      intro hnd x y hx hy hxy
      unfold keysA at hnd
      rw [List.map_cons, List.nodup_cons] at hnd
      rcases List.mem_cons.1 hx with hx1 | hx1 <;> rcases List.mem_cons.1 hy with hy1 | hy1
      · exact hx1.trans hy1.symm
      · exact (hnd.1 (List.mem_map.2 ⟨y, hy1, by rw [← hx1]; exact hxy.symm⟩)).elim
      · exact (hnd.1 (List.mem_map.2 ⟨x, hx1, by rw [← hy1]; exact hxy⟩)).elim
      · exact ih hnd.2 hx1 hy1 hxy
  cases ha : findA k a with
  | none =>
    cases hb : findA k b with
    | none => rfl
    | some y =>
      obtain ⟨h1, h2⟩ := key hb
      have := List.find?_eq_none.1 ha y (h.symm.mem_iff.1 h1)
      simp [h2] at this
  | some x =>
    obtain ⟨h1, h2⟩ := key ha
    cases hb : findA k b with
    | none =>
      have := List.find?_eq_none.1 hb x (h.mem_iff.1 h1)
      simp [h2] at this
    | some y =>
      obtain ⟨h3, h4⟩ := key hb
      rw [uniq hn h1 (h.symm.mem_iff.1 h3) (h2.trans h4.symm)]
theorem keysA_bk (es : List EB) : keysA (es.map toBk) = es.map (·.1.key) := by unfold keysA; rw [List.map_map]; rfl
theorem sort_nodup {B : List Bk} (h : SortA B) : (keysA B).Nodup := by
  unfold keysA List.Nodup
  rw [List.pairwise_map]
  exact h.imp fun {a b} h e => by simp [KL, e, ltK_irrefl] at h
theorem delE_A {k : List UInt8} {es : List EB} (hn : (es.map (·.1.key)).Nodup) : (delE k es).map toBk = dropA k (es.map toBk) := by
  induction es with
  | nil => rfl
  | cons p es ih =>
    rw [List.map_cons, List.nodup_cons] at hn
    rw [delE, List.map_cons, dropA, List.filter_cons]
    by_cases h : k = p.1.key
    · have : ∀ x ∈ es.map toBk, x.key ≠ k := by
        intro x hx he
        obtain ⟨q, hq, rfl⟩ := List.mem_map.1 hx
        exact hn.1 (List.mem_map.2 ⟨q, hq, (by rw [toBk_key] at he; exact he.trans h)⟩)
      rw [if_pos h, if_neg (by simp [toBk_key, h])]
      exact (List.filter_eq_self.2 fun x hx => by simpa using this x hx).symm
    · rw [if_neg h, if_pos (decide_eq_true (show (toBk p).key ≠ k from Ne.symm h)), List.map_cons]
      exact congrArg _ (ih hn.2)
theorem liveE_A (now : Int) (es : List EB) : (liveE now es).map toBk = sweepA now (es.map toBk) := by
  unfold liveE sweepA
  rw [List.filter_map]
  rfl
/-- The same key, an end that may be later. -/
def upV (e : Int) (x : BV) : BV := ⟨(x.key, x.sl, x.src, max x.exp e), x.2⟩
def setE (k : List UInt8) (e : Int) (es : List EB) : List EB := es.map fun p => if p.1.key = k then (upV e p.1, p.2) else p
theorem setE_keys (k : List UInt8) (e : Int) (es : List EB) : (setE k e es).map (·.1.key) = es.map (·.1.key) := by
  unfold setE
  rw [List.map_map]
  refine List.map_congr_left fun p _ => ?_
  show (if p.1.key = k then (upV e p.1, p.2) else p).1.key = _
  split <;> rfl
theorem setE_A (k : List UInt8) (e : Int) (es : List EB) : (setE k e es).map toBk = renewA k e (es.map toBk) := by
  unfold setE renewA
  rw [List.map_map, List.map_map]
  refine List.map_congr_left fun p _ => ?_
  show toBk (if p.1.key = k then (upV e p.1, p.2) else p) = upA k e (toBk p)
  unfold upA
  rw [toBk_key]
  split <;> rfl
theorem setE_none {k : List UInt8} {e : Int} {es : List EB} (h : ∀ p ∈ es, p.1.key ≠ k) : setE k e es = es := by
  unfold setE
  conv => rhs; rw [← List.map_id es]
  exact List.map_congr_left fun p hp => by simp [h p hp]
theorem setE_ents {k : List UInt8} {e : Int} : ∀ {es : List EB} {p : EB}, (es.map (·.1.key)).Nodup → findE k es = some p → setQ k (encB (upV e p.1)) (entsOf es) = entsOf (setE k e es)
  | [], _, _, h => by cases h
  | q :: es, p, hn, h => by
    rw [List.map_cons, List.nodup_cons] at hn
    show setQ k _ ((q.1.key, encB q.1) :: entsOf es) = _
    rw [setQ]
    rw [findE] at h
    by_cases hk : k = q.1.key
    · rw [if_pos hk] at h
      injection h with h
      subst h
      rw [if_pos hk]
      have h0 : setE k e es = es := setE_none fun p hp he => hn.1 (List.mem_map.2 ⟨p, hp, he.trans hk⟩)
      have h1 : setE k e (q :: es) = (upV e q.1, q.2) :: es := by
        show (if q.1.key = k then (upV e q.1, q.2) else q) :: setE k e es = _
        rw [if_pos hk.symm, h0]
      rw [h1]
      show _ = ((upV e q.1).key, encB (upV e q.1)) :: entsOf es
      rw [hk]
      rfl
    · rw [if_neg hk] at h
      rw [if_neg hk, setE_ents hn.2 h]
      have h1 : setE k e (q :: es) = q :: setE k e es := by
        show (if q.1.key = k then (upV e q.1, q.2) else q) :: setE k e es = _
        rw [if_neg (fun e => hk e.symm)]
      rw [h1]
      rfl
theorem upA_data (k : List UInt8) (e : Int) (x : Bk) : (upA k e x).data = x.data := by unfold upA; split <;> rfl
theorem upA_src (k : List UInt8) (e : Int) (x : Bk) : (upA k e x).src = x.src := by unfold upA; split <;> rfl
theorem renewA_tot (k : List UInt8) (e : Int) (B : List Bk) : totA (renewA k e B) = totA B := by
  unfold totA renewA
  rw [List.map_map]
  exact congrArg _ (List.map_congr_left fun x _ => by show (upA k e x).data.length = _; rw [upA_data])
theorem renewA_used (k : List UInt8) (e : Int) (s : Int) (B : List Bk) : usedA s (renewA k e B) = usedA s B := by
  unfold usedA renewA
  rw [List.filter_map, List.map_map]
  have : ((fun x : Bk => decide (x.src = s)) ∘ upA k e) = fun x => decide (x.src = s) := by funext x; show decide ((upA k e x).src = s) = _; rw [upA_src]
  rw [this]
  exact congrArg _ (List.map_congr_left fun x _ => by show (upA k e x).data.length = _; rw [upA_data])
theorem setE_tot (k : List UInt8) (e : Int) (es : List EB) : totE (setE k e es) = totE es := by rw [totE_eq, setE_A, renewA_tot, totE_eq]
theorem setE_used (k : List UInt8) (e : Int) (s : Int) (es : List EB) : usedE s (setE k e es) = usedE s es := by rw [usedE_eq, setE_A, renewA_used, usedE_eq]
theorem setE_dat {k : List UInt8} {e : Int} {es : List EB} {h : Hlt} (hd : datP es h) : datP (setE k e es) h := by
  intro p hp
  obtain ⟨q, hq, rfl⟩ := List.mem_map.1 hp
  have := hd q hq
  by_cases hk : q.1.key = k
  · rw [if_pos hk]; exact this
  · rw [if_neg hk]; exact this
theorem RawG.set {room quota : Int} {es : List EB} (hg : RawG room quota es) (k : List UInt8) (e : Int) : RawG room quota (setE k e es) where
  nodup := by rw [setE_keys]; exact hg.nodup
  fits := by rw [setE_tot]; exact hg.fits
  most := hg.most
  mostq := hg.mostq
  posq := hg.posq
theorem RawG.add {room quota : Int} {es : List EB} (hg : RawG room quota es) {p : EB} (hk : findE p.1.key es = none) (hf : (totE es : Int) + (p.2.length : Int) ≤ room) : RawG room quota (es ++ [p]) where
  nodup := by
    rw [List.map_append, List.map_cons, List.map_nil, List.nodup_append]
    refine ⟨hg.nodup, by simp, fun a ha b hb => ?_⟩
    obtain ⟨q, hq, rfl⟩ := List.mem_map.1 ha
    simp at hb
    subst hb
    exact (findE_none hk).1 q hq
  fits := by rw [totE_app, totE_cons]; simp [totE]; simp [totE] at hf; omega
  most := hg.most
  mostq := hg.mostq
  posq := hg.posq
theorem datP_add {es : List EB} {p : EB} {t : TypeId} {h : Hlt} (hs : starL [datP es, rowB t p.1.sl p.2] h) : datP (es ++ [p]) h := by
  intro q hq
  rcases List.mem_append.1 hq with hq | hq
  · exact starL_le hs (φ := rdB q.1.sl q.2) 0 rfl fun h' h1 h2 => rdP_le h2 (h1 q hq)
  · simp only [List.mem_singleton] at hq
    subst hq
    exact starL_le hs (φ := rdB q.1.sl q.2) 1 rfl fun h' h1 h2 => rdP_le h2 (rowP_rd h1)
/-- What a block put changes: the answer and what there is then. -/
def putA (room quota : Int) (B : List Bk) (b : Bk) (now : Int) : Int × List Bk :=
  if (decide (b.src < 0) || decide (b.exp ≤ now)) = true then (1, B)
  else if 6000 < (b.data.length : Int) then (5, B)
  else match findA b.key (sweepA now B) with
    | some _ => (0, renewA b.key b.exp (sweepA now B))
    | none => if quota - (usedA b.src (sweepA now B) : Int) < (b.data.length : Int) then (15, sweepA now B)
      else if room - (totA (sweepA now B) : Int) < (b.data.length : Int) then (16, sweepA now B)
      else (0, insA b (sweepA now B))
def getA (B : List Bk) (k : List UInt8) (now : Int) : Option Bk := (findA k B).filter fun x => decide (now < x.exp)
/-- The object: blocks in the order of their keys. -/
structure AOk (B : List Bk) (es : List EB) (soon : Int) : Prop where
  perm : (es.map toBk).Perm B
  sort : SortA B
  soon : ∀ p ∈ es, soon ≤ p.1.exp
theorem AOk.len {B : List Bk} {es : List EB} {soon : Int} (h : AOk B es soon) : es.length = B.length := by have := h.perm.length_eq; simpa using this
theorem AOk.len32 {B : List Bk} {es : List EB} {soon : Int} (h : AOk B es soon) : ∀ x ∈ B, x.key.length = 32 := fun x hx => by
  obtain ⟨p, _, rfl⟩ := List.mem_map.1 (h.perm.symm.mem_iff.1 hx)
  exact p.1.len
theorem AOk.nodup {B : List Bk} {es : List EB} {soon : Int} (h : AOk B es soon) : (es.map (·.1.key)).Nodup := by
  rw [← keysA_bk]
  exact ((h.perm.map _).nodup_iff).2 (sort_nodup h.sort)
theorem AOk.find {B : List Bk} {es : List EB} {soon : Int} (h : AOk B es soon) (k : List UInt8) : (findE k es).map toBk = findA k B := by
  rw [findE_A]
  exact findA_perm h.perm (by rw [keysA_bk]; exact h.nodup)
theorem AOk.sweep {B : List Bk} {es es2 : List EB} {soon soon2 now : Int} (h : AOk B es soon) (hp : es2.Perm (liveE now es)) (hs : ∀ p ∈ es2, soon2 ≤ p.1.exp) : AOk (sweepA now B) es2 soon2 where
  perm := by
    have h1 := hp.map toBk
    rw [liveE_A] at h1
    exact h1.trans (h.perm.filter _)
  sort := h.sort.filter _
  soon := hs
theorem AOk.del {B : List Bk} {es : List EB} {soon : Int} (h : AOk B es soon) (k : List UInt8) : AOk (dropA k B) (delE k es) soon where
  perm := by rw [delE_A h.nodup]; exact h.perm.filter _
  sort := h.sort.filter _
  soon := fun p hp => h.soon p ((delE_sub k es).subset hp)
theorem AOk.renew {B : List Bk} {es : List EB} {soon : Int} (h : AOk B es soon) (k : List UInt8) (e : Int) : AOk (renewA k e B) (setE k e es) soon where
  perm := by rw [setE_A]; exact h.perm.map _
  sort := renewA_sort h.sort
  soon := fun p hp => by
    obtain ⟨q, hq, rfl⟩ := List.mem_map.1 hp
    have := h.soon q hq
    by_cases hk : q.1.key = k
    · rw [if_pos hk]; show _ ≤ max q.1.exp e; omega
    · rw [if_neg hk]; exact this
theorem AOk.ins {B : List Bk} {es : List EB} {soon : Int} (h : AOk B es soon) {p : EB} (hk : findE p.1.key es = none) : AOk (insA (toBk p) B) (es ++ [p]) (min soon p.1.exp) where
  perm := by
    rw [List.map_append, List.map_cons, List.map_nil]
    exact (List.perm_append_singleton _ _).trans (((h.perm).cons _).trans (insA_perm _ _).symm)
  sort := insA_sort h.sort fun x hx => by
    obtain ⟨q, hq, rfl⟩ := List.mem_map.1 (h.perm.symm.mem_iff.1 hx)
    exact ⟨(findE_none hk).1 q hq, q.1.len.trans p.1.len.symm⟩
  soon := fun q hq => by
    rcases List.mem_append.1 hq with hq | hq
    · have := h.soon q hq; omega
    · simp only [List.mem_singleton] at hq; subst hq; omega
def areaP (g : Nat) (room quota : Int) (B : List Bk) : HP := fun h => ∃ q : List EB × Int, AOk B q.1 q.2 ∧ rawP g room quota q.2 q.1 none h
theorem closeA {g : Nat} {room quota soon : Int} {B : List Bk} {es : List EB} (hk : AOk B es soon) : ∀ h, rawP g room quota soon es none h → areaP g room quota B h := fun h hs => ⟨(es, soon), hk, hs⟩
theorem W_openA {P : Program} {E : Env} {n : Nat} {K : Slots} {L : Res} {Q : Exit → Act → World → Prop} {c : Code} (r : Nat) {g : Nat} {room quota : Int} {B : List Bk} (hr : look L r = some (areaP g room quota B))
    (k : ∀ es soon, AOk B es soon → W P E n c K ((r, rawP g room quota soon es none) :: L) Q) : W P E n c K L Q := fun a w hA hS => by
  obtain ⟨q, hS2⟩ := hS.ex hr (Q := fun (q : List EB × Int) h => AOk B q.1 q.2 ∧ rawP g room quota q.2 q.1 none h) (fun h hp => hp)
  have hx := hS2.get (look_same _ _ _) fun h hp => hp.1
  have hS3 := hS2.cons (P' := rawP g room quota q.2 q.1 none) (look_same _ _ _) fun h hp => hp.2
  refine k q.1 q.2 hx a w hA (hS3.sub fun r' P' h => ?_)
  by_cases hrr : r = r'
  · subst hrr; rw [look_same] at h ⊢; exact h
  · rw [look_other hrr] at h ⊢; rw [look_other hrr]; exact h
theorem callsS_openA {P : Program} {f : FuncId} {args : Array Value} {F : HP} {g : Nat} {room quota : Int} {B : List Bk} {R : Value → List HP → Prop} (k : ∀ es soon, AOk B es soon → CallsS P f args F [rawP g room quota soon es none] (fun v Ps => ∃ B2 es2 soon2, AOk B2 es2 soon2 ∧ Ps = [rawP g room quota soon2 es2 none] ∧ R v [areaP g room quota B2])) : CallsS P f args F [areaP g room quota B] R := fun E w hS => by
  obtain ⟨q, hS2⟩ := hS.ex (r := 1) rfl (Q := fun (q : List EB × Int) h => AOk B q.1 q.2 ∧ rawP g room quota q.2 q.1 none h) (fun h hp => hp)
  have hx := hS2.get (look_same _ _ _) fun h hp => hp.1
  have hS3 := hS2.cons (P' := rawP g room quota q.2 q.1 none) (look_same _ _ _) fun h hp => hp.2
  have hS4 : Sat E (En 0 (F :: [rawP g room quota q.2 q.1 none])) w := hS3.sub (AllIn.look ⟨rfl, rfl, trivial⟩)
  refine (k q.1 q.2 hx E w hS4).mono fun e w' hR => ?_
  obtain ⟨v, Ps, rfl, ⟨B2, es2, soon2, h1, rfl, h2⟩, h3⟩ := hR
  refine ⟨v, _, rfl, h2, ?_⟩
  exact (h3.cons (r := 1) (P' := areaP g room quota B2) rfl (closeA h1)).sub (AllIn.look ⟨rfl, rfl, trivial⟩)
end Go.Proofs.Ytjopgnkffhfhkaa
/- Go's own slices, of bytes. -/
namespace Go.Proofs.Ytjopgnkffhfhkaa
open Go.RowKit
set_option linter.unusedVariables false

theorem clone_spec (v : Value) (l : List UInt8) (hl : l.length ≤ 4000000000) (F : HP) (hF : ∀ h, F h → rdB v l h) : CallsS Try.prog 31 #[v] F [] (fun r Ps => r.oneCell' = true ∧ Ps = [rowB 5 r l]) := by
  refine callsS_enter Try.func31 rfl Try.ntmps31 (by simp) (fun E => ?_)
  refine W_seq ?_
  refine W.pre (K' := [(0, _)]) (L' := [(0, _)]) ?_ ⟨rfl, trivial⟩ ⟨rfl, trivial⟩
  refine W_fact (r := 0) rfl (fun h hp => rdP_nil (hF h hp)) (fun hnil => ?_)
  refine W_regL (WL_pure rfl rfl (by decide) (Pu_assign rfl rfl) (WL_nil (X_then ?_)))
  refine W_seq ?_
  refine W_seq ?_
  refine W.pre (K' := [(0, _), (2, _)]) (L' := [(0, _)]) ?_ ⟨rfl, ⟨rfl, trivial⟩⟩ ⟨rfl, trivial⟩
  refine W_regL (WL_pure rfl rfl (by decide) (Pu_move rfl rfl) (WL_pure rfl rfl (by decide) (Pu_eqNil (r := 0) rfl Try.underlying38 rfl rfl rfl hF) (WL_nil (X_then ?_))))
  refine W_cond rfl (fun hc4 => ?_) (fun hc4 => ?_)
  ·
    refine W_seq ?_
    refine W.pre (K' := [(0, _), (2, _), (4, _)]) (L' := [(0, _)]) ?_ ⟨rfl, ⟨rfl, ⟨rfl, trivial⟩⟩⟩ ⟨rfl, trivial⟩
    refine W_regL (WL_pure rfl rfl (by decide) (Pu_assign rfl rfl) (WL_nil (X_then ?_)))
    refine W_ret (X_then_ret ?_)
    refine X_nilRow 9900 5 1 ?_
    obtain rfl : l = [] := List.length_eq_zero_iff.1 (hnil hc4)
    exact X_ret [9900] (Ps := [_]) (res1 Try.results31 rfl) rfl (by decide) ⟨rfl, congrArg (· :: []) (rowB_of [] rfl rfl)⟩
  ·
    refine W_skip (X_then ?_)
    refine W_seq ?_
    refine W.pre (K' := [(0, _), (2, _), (4, _)]) (L' := [(0, _)]) ?_ ⟨rfl, ⟨rfl, ⟨rfl, trivial⟩⟩⟩ ⟨rfl, trivial⟩
    refine W_regL (WL_cons rfl rfl (by decide) (OpT_buildOnes (r := 101) [] rfl rfl Try.runUnderlying38 Try.sizeOf5 Try.zeroValue5 rfl rfl (by decide) rfl (by simp) (fun v5 => (WL_pure rfl rfl (by decide) (Pu_move rfl rfl) (WL_cons rfl rfl (by decide) (OpT_append (r := 101) (r2 := 0) (k1 := 0) rfl Try.underlying38 TI.hi5 TI.hz5 TI.hs5 TI.hby5 TI.hzs5 (by decide) rfl rfl rfl rfl hF (bs_one _) (by unfold maxLen; omega) (by omega) (fun v7 => ?_)))))))
    refine (WL_pure rfl rfl (by decide) (Pu_assign rfl rfl) (WL_nil (X_then ?_)))
    refine W_ret ?_
    refine X_fact (r := 101) rfl (fun h hp => rd_one (rowP_rd hp)) (fun hone => ?_)
    exact X_ret [101] (Ps := [_]) (res1 Try.results31 rfl) rfl (by decide) ⟨hone, congrArg (· :: []) (rowB_of l (by simp) (by simp))⟩
end Go.Proofs.Ytjopgnkffhfhkaa
