/- Go's own functions on strings, as they are called here: what they read, what they hand back. -/
import Derived.Test.YtjiafaiklmbbeaaDoorLayN
import Derived.Test.YtjiafaiklmbbeaaDoorNames0
import Derived.Shelf.Strings.Split
import Derived.Shelf.Strings.Prefix
import Derived.Shelf.Strings.OnBuilder
import Derived.Shelf.Unicode.DecodeAny
namespace Go.Proofs.YtjiafaiklmbbeaaDoor
open Go.RowKit Go.Lib
set_option linter.unusedVariables false
set_option linter.unusedSimpArgs false
/-- The library's tables and variables that are read. -/
def tabsP : HP := fun h => ∀ w, In h w → Lib.Utf8Tabs (ren.g 3) (ren.g 4) w ∧ ∃ m, w.cell? ⟨ren.g 1, 0, none⟩ = some (.int .i64 m)
theorem tabs_le {h h' : Hlt} (hl : ∀ g o, h' g = some o → h g = some o) (ht : tabsP h') : tabsP h := fun w hi => ht w fun g o hg => hi g o (hl g o hg)
theorem tabs_star {Js : List HP} {P : HP} (k : Nat) (hk : Js[k]? = some P) (hp : ∀ h, P h → tabsP h) : ∀ h, starL Js h → tabsP h := fun h ⟨hs, h1, _, h3⟩ =>
  tabs_le (h3 k) (hp _ (h1 k P hk))
theorem cell_keep {W w : World} (h : ∀ (g : Nat) (o : Obj), W.heap[g]? = some o → w.heap[g]? = some o) {a : Addr} {v : Value} (hc : W.cell? a = some v) : w.cell? a = some v := by
  unfold World.cell? at hc ⊢
  cases hb : W.heap[a.block]? with
  | none => simp [hb] at hc
  | some o => rw [h _ _ hb]; rw [hb] at hc; exact hc
theorem orig_tabs {W : World} (h1 : Lib.Utf8Tabs (ren.g 3) (ren.g 4) W) (h2 : ∃ m, W.cell? ⟨ren.g 1, 0, none⟩ = some (.int .i64 m)) : ∀ h, orig W h → tabsP h := fun h ho w hi => by
  have hk : ∀ (g : Nat) (o : Obj), W.heap[g]? = some o → w.heap[g]? = some o := fun g o hg => hi g o (ho g o hg)
  obtain ⟨m, hm⟩ := h2
  exact ⟨⟨fun c hc => cell_keep hk (h1.1 c hc), fun i hi => ⟨cell_keep hk (h1.2 i hi).1, cell_keep hk (h1.2 i hi).2⟩⟩, m, cell_keep hk hm⟩
/-- A contract that leaves the world, but for new memory. -/
theorem callsS_below {P : Program} {f : FuncId} {args : Array Value} {F : HP} {r : Value} (h : ∀ w, (∃ h, F h ∧ In h w) → Calls P f args w fun e w' => e = .returned r ∧ Below w.heap.size w w') : CallsS P f args F [] (fun v Ps => v = r ∧ Ps = []) := fun E w hS => by
  have hr : look (En 0 [F]) 0 = some F := rfl
  refine (h w (hS.read hr)).mono fun e w' ⟨he, hb⟩ => ⟨r, [], he, ⟨rfl, rfl⟩, hS.same ⟨hb.os, hb.tape, hb.output, hb.size, fun k hk _ => hb.block k hk⟩⟩
theorem callsS_same {P : Program} {f : FuncId} {args : Array Value} {F : HP} {r : Value} (h : ∀ w, Calls P f args w fun e w' => e = .returned r ∧ w' = w) : CallsS P f args F [] (fun v Ps => v = r ∧ Ps = []) :=
  callsS_below fun w _ => (h w).mono fun e w' ⟨he, hw⟩ => ⟨he, hw ▸ Below.refl _ _⟩
theorem strB_dataL (l : List UInt8) : (strB l).data.toList = l := by simp [strB]
theorem decode_spec (l : List UInt8) (hl : l ≠ []) (F : HP) (hF : ∀ h, F h → tabsP h) : CallsS Tryd.prog 18 #[sV l] F [] (fun v Ps => v = .tuple #[.int .i32 ((decodeL l).1 : Int), .int .i64 ((decodeL l).2 : Int)] ∧ Ps = []) :=
  callsS_below fun w ⟨h, hp, hi⟩ => by
    have := Any.utf8_DecodeRuneInString lays197 (strB l) w (hF h hp w hi).1
    have hn : ¬ (strB l).size = 0 := by rw [strB_size]; intro hc; exact hl (List.eq_nil_of_length_eq_zero hc)
    have hd : decodeGo (strB l) = decodeL l := by unfold decodeGo decodeL; rw [if_neg hn]; rfl
    rw [hd] at this
    exact this
theorem prefix_spec (l p : List UInt8) (F : HP) : CallsS Tryd.prog 21 #[sV l, sV p] F [] (fun v Ps => v = .bool (p.isPrefixOf l) ∧ Ps = []) :=
  callsS_same fun w => by
    have := Any.strings_HasPrefix lays99 (strB l) (strB p) w
    rw [strB_dataL, strB_dataL] at this
    exact this
theorem suffix_spec (l p : List UInt8) (hl : l.length ≤ 9223372036854775807) (F : HP) : CallsS Tryd.prog 22 #[sV l, sV p] F [] (fun v Ps => v = .bool (p.isSuffixOf l) ∧ Ps = []) :=
  callsS_same fun w => by
    have := Any.strings_HasSuffix lays100 (strB l) (strB p) w (by rw [strB_size]; exact hl)
    rw [strB_dataL, strB_dataL] at this
    exact this
/-- A text cut at each stroke. -/
def splitL : List UInt8 → List (List UInt8)
  | [] => [[]]
  | c :: l => if c = 47 then [] :: splitL l else match splitL l with
    | p :: ps => (c :: p) :: ps
    | [] => [[c]]
theorem splitL_ne (l : List UInt8) : splitL l ≠ [] := by
  cases l with
  | nil => simp [splitL]
  | cons c l =>
    unfold splitL
    split
    · simp
    · split <;> simp
theorem splitL_len (l : List UInt8) : (splitL l).length ≤ l.length + 1 := by
  induction l with
  | nil => simp [splitL]
  | cons c l ih =>
    unfold splitL
    split
    · simp; omega
    · split
      · rename_i p ps h; rw [h] at ih; simp at ih ⊢; omega
      · simp
theorem splitK_miss (k : Nat) (s : List UInt8) (h : index s [47] = -1) : splitK [47] 0 k s = [s] := by
  cases k with
  | zero => rfl
  | succ k => simp [splitK, h]
theorem splitK_hit (k i : Nat) (s : List UInt8) (h : index s [47] = (i : Int)) : splitK [47] 0 (k + 1) s = s.take i :: splitK [47] 0 k (s.drop (i + 1)) := by
  have : ¬ (index s [47] == -1) = true := fun e => by have := beq_iff_eq.1 e; omega
  simp only [splitK]
  rw [if_neg this, h]
  simp
theorem splitL_lib (s : List UInt8) : splitK [47] 0 (count s [47]) s = splitL s := by
  induction s with
  | nil => simp [splitL]; exact splitK_miss _ _ (by simp [index])
  | cons b l ih =>
    by_cases hb : b = 47
    · subst hb
      have h0 : index (47 :: l) [47] = ((0 : Nat) : Int) := by simp [index]
      rw [count_hit (by simp) h0, Nat.add_comm, splitK_hit _ 0 _ h0]
      simp [splitL, ih]
    · have hp : ([47] : List UInt8).isPrefixOf (b :: l) = false := by simp [List.isPrefixOf]; exact fun h => hb h.symm
      rcases index_spec l [47] with ⟨hm, _⟩ | ⟨i, hi, _⟩
      · have h1 : index (b :: l) [47] = -1 := by simp [index, hp, hm]
        rw [splitK_miss _ _ h1]
        rw [splitK_miss _ _ hm] at ih
        simp [splitL, hb, ← ih]
      · have h1 : index (b :: l) [47] = ((i + 1 : Nat) : Int) := by
          unfold index
          rw [if_neg (by simp [hp]), if_neg (by rw [hi]; simp), hi]
          simp
        rw [count_hit (by simp) h1, Nat.add_comm, splitK_hit _ _ _ h1]
        rw [count_hit (by simp) hi, Nat.add_comm, splitK_hit _ _ _ hi] at ih
        have hd : (b :: l).drop (i + 1 + ([47] : List UInt8).length) = l.drop (i + ([47] : List UInt8).length) := by
          rw [show i + 1 + ([47] : List UInt8).length = (i + ([47] : List UInt8).length) + 1 by omega, List.drop_succ_cons]
        rw [hd]
        simp only [splitL, if_neg hb, ← ih]
        simp
theorem split_spec (l : List UInt8) (hl : l.length < 4294967281) (F : HP) (hF : ∀ h, F h → tabsP h) : CallsS Tryd.prog 23 #[sV l, sV [47]] F [] (fun v Ps => Ps = [rowS 9 v (splitL l)]) := fun E w hS => by
  have hr : look (En 0 [F]) 0 = some F := rfl
  obtain ⟨h, hp, hi⟩ := hS.read hr
  obtain ⟨_, m, hm⟩ := hF h hp w hi
  have hpieces : ((splitB (strB [47]) 0 (countB (strB l) (strB [47])) (strB l)).map Value.string) = ss (splitL l) := by
    have h1 := splitB_data (strB [47]) 0 (countB (strB l) (strB [47])) (strB l)
    have hc : countB (strB l) (strB [47]) = count l [47] := by unfold countB; rw [strB_dataL, strB_dataL]
    rw [strB_dataL, strB_dataL, hc, splitL_lib] at h1
    rw [hc]
    unfold ss
    rw [← h1, List.map_map]
    apply List.map_congr_left
    intro x _
    simp only [Function.comp, sV]
    rw [← strB_data]
  have hlen : countB (strB l) (strB [47]) + 1 = (splitL l).length := by
    have := congrArg List.length hpieces
    rw [List.length_map, ss_length] at this
    rw [← this]
    exact (splitB_all (strB [47]) (by rw [strB_size]; simp) 0 _ (strB l) rfl).symm
  refine (Any.strings_Split lays146 (by kernel_rfl) (strB l) (strB [47]) m w (by rw [strB_size]; exact hl) hm (by rw [strB_size]; simp)).mono fun e w' ⟨he, hw⟩ => ?_
  rw [hpieces] at hw
  rw [hlen] at he
  subst hw
  refine ⟨_, _, he, rfl, ?_⟩
  have hsl := splitL_len l
  have hown : (w.alloc (.cells (ss (splitL l)).toArray (ren.t 9))).ownsRow 0 9 1 (.slice (some ⟨w.heap.size, 0, none⟩) (splitL l).length (splitL l).length) (splitL l).length (ss (splitL l)) :=
    ⟨by rw [ss_length, Nat.mul_one], .inr ⟨w.heap.size, _, _, rfl, Nat.zero_le _, heap_alloc_new w _, Nat.le_refl _, by unfold maxLen; omega, by rw [List.size_toArray, ss_length, Nat.mul_one], by rw [List.toList_toArray, Nat.mul_one]; exact List.take_of_length_le (by rw [ss_length]; exact Nat.le_refl _)⟩⟩
  obtain ⟨h', c1, c2, c3⟩ := rowP_of_own hown
  have hch : Chg [] w (w.alloc (.cells (ss (splitL l)).toArray (ren.t 9))) := ⟨rfl, rfl, rfl, by simp, fun k hk _ => heap_alloc_old w _ hk⟩
  refine hS.new 1 hch h' c1 c2 (fun g hg => ?_) |>.sub ?_
  · have := c3 g hg
    simp [Value.ownBlock] at this
    omega
  · intro r P h
    simp only [En] at h
    by_cases h0 : 0 = r
    · subst h0; rw [look_same] at h; rw [look_other (by omega)]; exact h
    · rw [look_other h0] at h
      by_cases h1 : 1 = r
      · subst h1; rw [look_same] at h ⊢; exact h
      · rw [look_other h1] at h; cases h
/-- Texts put together, a stroke between. -/
def joinL : List (List UInt8) → List UInt8
  | [] => []
  | [x] => x
  | x :: y :: r => x ++ 47 :: joinL (y :: r)
theorem join_lib (xs : List (List UInt8)) : Lib.join xs [47] = joinL xs := by
  induction xs with
  | nil => rfl
  | cons x r ih =>
    cases r with
    | nil => simp [joinL, join_one]
    | cons y r =>
      rw [join_cons] at ih ⊢
      simp only [joinL, ← ih, joinTail]
      simp
theorem join_spec (v : Value) (ls : List (List UInt8)) (hlen : (joinL ls).length ≤ 140737488355328) (hN : ls.length ≤ 140737488355328) (F : HP) (hF : ∀ h, F h → rdS v ls h) : CallsS Tryd.prog 25 #[v, sV [47]] F [] (fun r Ps => r = sV (joinL ls) ∧ Ps = []) :=
  callsS_below fun w ⟨h, hp, hi⟩ => by
    have hRd := rdP_Rd (hF h hp) hi Nat.one_pos
    obtain ⟨_, A, c, rfl, hc, h0, hrd⟩ := hRd
    cases A with
    | none =>
      have hz : ls = [] := List.eq_nil_of_length_eq_zero (by have := h0 rfl; omega)
      subst hz
      exact (Any.strings_Join_none lays156 laysX none c (strB [47]) w).mono fun e w' ⟨he, hw⟩ => ⟨he, hw ▸ Below.refl _ _⟩
    | some ad =>
      obtain ⟨hb, hcell⟩ := hrd ad rfl
      cases hls : ls with
      | nil =>
        exact (Any.strings_Join_none lays156 laysX (some ad) c (strB [47]) w).mono fun e w' ⟨he, hw⟩ => ⟨he, hw ▸ Below.refl _ _⟩
      | cons x0 r0 =>
        rw [← hls]
        have hpos : 0 < ls.length := by rw [hls]; simp
        have hc0 := hcell 0 _ (ss_at hpos)
        rw [show ad.add 0 = ad from by simp [Addr.add]] at hc0
        obtain ⟨b, off, spot⟩ := ad
        have hsp : spot = none := World.cell?_spot hc0
        subst hsp
        have hmap : (ls.map strB).map (·.data.toList) = ls := by rw [List.map_map]; exact (List.map_congr_left fun x _ => strB_dataL x).trans (List.map_id ls)
        have := Any.strings_Join lays156 laysX b off c (ls.map strB) (strB [47]) w (fun j x hj => by
          rw [List.getElem?_map] at hj
          obtain ⟨y, hy, rfl⟩ := Option.map_eq_some_iff.1 hj
          have h1 := hcell j (sV y) (by simp [ss, hy])
          have h2 : (⟨b, off, none⟩ : Addr).add j = ⟨b, off + j, none⟩ := by unfold Addr.add; split <;> simp_all
          rw [h2] at h1
          exact h1) (hb hpos) (by simpa using hN) (by simpa using hc) (by rw [hmap, strB_dataL, join_lib]; exact hlen)
        rw [hmap, strB_dataL, join_lib, List.length_map] at this
        exact this
end Go.Proofs.YtjiafaiklmbbeaaDoor
