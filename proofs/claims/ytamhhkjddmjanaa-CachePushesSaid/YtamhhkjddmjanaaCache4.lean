/- Caches: plain words of the law of pushes. -/
import Derived.Test.YtamhhkjddmjanaaCache2
namespace Go.Proofs.Ytamhhkjddmjanaa
set_option linter.unusedVariables false
set_option linter.unusedSimpArgs false
def zs (n : Int) : List UInt8 := List.replicate n.toNat 0
/-- The things from the i-th on, of these sizes. -/
def pushFrom (i : Nat) : List Int → Ents
  | [] => []
  | n :: ns => (keyB (i : Int), zs n) :: pushFrom (i + 1) ns
theorem pushFrom_app : ∀ (ns : List Int) (i : Nat) (n : Int), pushFrom i (ns ++ [n]) = pushFrom i ns ++ [(keyB ((i + ns.length : Nat) : Int), zs n)]
  | [], i, n => by simp [pushFrom]
  | m :: ns, i, n => by
    rw [List.cons_append, pushFrom, pushFrom, pushFrom_app ns (i + 1) n, List.cons_append, List.length_cons, show i + 1 + ns.length = i + (ns.length + 1) by omega]
theorem pushFrom_length : ∀ (ns : List Int) (i : Nat), (pushFrom i ns).length = ns.length
  | [], i => rfl
  | m :: ns, i => by rw [pushFrom, List.length_cons, pushFrom_length ns (i + 1), List.length_cons]
theorem pushFrom_keys : ∀ (ns : List Int) (i : Nat) (k : List UInt8), k ∈ keys (pushFrom i ns) → ∃ j, i ≤ j ∧ j < i + ns.length ∧ k = keyB (j : Int)
  | [], i, k, h => by simp [pushFrom, keys] at h
  | m :: ns, i, k, h => by
    simp only [pushFrom, keys, List.map_cons, List.mem_cons] at h
    rcases h with rfl | h
    · exact ⟨i, Nat.le_refl _, by simp, rfl⟩
    · obtain ⟨j, h1, h2, h3⟩ := pushFrom_keys ns (i + 1) k h
      exact ⟨j, by omega, by simp; omega, h3⟩
/-- Their sum. -/
def sumI (ns : List Int) : Int := ns.foldr (· + ·) 0
theorem sumI_app (ns : List Int) (n : Int) : sumI (ns ++ [n]) = sumI ns + n := by
  induction ns with
  | nil => simp [sumI]
  | cons m ns ih => simp only [sumI, List.cons_append, List.foldr_cons] at ih ⊢; omega
theorem push_total : ∀ (ns : List Int) (i : Nat), (∀ n ∈ ns, 1 ≤ n ∧ n ≤ 9) → (total (pushFrom i ns) : Int) = sumI ns
  | [], i, _ => rfl
  | m :: ns, i, h => by
    have hm := h m (by simp)
    have ih := push_total ns (i + 1) fun n hn => h n (by simp [hn])
    rw [pushFrom, total_cons]
    simp only [zs, List.length_replicate, sumI, List.foldr_cons] at ih ⊢
    omega
theorem sumI_le : ∀ (ns : List Int), (∀ n ∈ ns, 1 ≤ n ∧ n ≤ 9) → 0 ≤ sumI ns ∧ sumI ns ≤ 9 * ns.length
  | [], _ => by simp [sumI]
  | m :: ns, h => by
    have hm := h m (by simp)
    have ih := sumI_le ns fun n hn => h n (by simp [hn])
    simp only [sumI, List.foldr_cons, List.length_cons] at ih ⊢
    omega
theorem push_step {ns : List Int} {n : Int} (hs : ∀ n ∈ ns, 1 ≤ n ∧ n ≤ 9) (hn : 1 ≤ n ∧ n ≤ 9) (hl : ns.length < 10) : putC 100 (pushFrom 0 ns) (keyB (ns.length : Int)) (zs n) = pushFrom 0 (ns ++ [n]) ∧ putB 100 (zs n) = true := by
  have hno : keyB (ns.length : Int) ∉ keys (pushFrom 0 ns) := fun h => by
    obtain ⟨j, _, h2, h3⟩ := pushFrom_keys _ _ _ h
    have := keyB_inj h3
    omega
  have hd : dropK (keyB (ns.length : Int)) (pushFrom 0 ns) = pushFrom 0 ns := dropK_none hno
  have ht := push_total ns 0 hs
  have hsum := sumI_le ns hs
  have hz : (zs n).length = n.toNat := by simp [zs]
  obtain ⟨h1, h2⟩ := putC_fits (room := 100) (l := pushFrom 0 ns) (k := keyB (ns.length : Int)) (d := zs n) (by rw [hz]; omega) (by rw [hd, hz]; omega)
  rw [hd] at h1
  refine ⟨?_, h2⟩
  rw [h1, pushFrom_app, Nat.zero_add]
/-- How many go, what is left. -/
def pushed (great : Nat) : Nat → List Int → Nat × List Int
  | i, [] => (i, [])
  | i, n :: ns => if sumI (n :: ns) + great ≤ 100 then (i, n :: ns) else pushed great (i + 1) ns
theorem evict_push {great : Nat} : ∀ (ns : List Int) (i : Nat), (∀ n ∈ ns, 1 ≤ n ∧ n ≤ 9) → evict 100 great (pushFrom i ns) = pushFrom (pushed great i ns).1 (pushed great i ns).2
  | [], i, _ => rfl
  | n :: ns, i, h => by
    have ht := push_total (n :: ns) i h
    have ih := evict_push (great := great) ns (i + 1) fun m hm => h m (by simp [hm])
    rw [pushed]
    by_cases hc : sumI (n :: ns) + great ≤ 100
    · rw [if_pos hc]
      exact evict_done (by omega)
    · rw [if_neg hc, pushFrom]
      rw [evict_cons (by rw [← pushFrom]; omega), ih]
/-- The loop's way there: g have gone. -/
theorem pushed_drop {great : Nat} (ns : List Int) : ∀ g, g ≤ ns.length → (∀ j, j < g → 100 < sumI (ns.drop j) + great) → pushed great 0 ns = pushed great g (ns.drop g)
  | 0, _, _ => by simp
  | g + 1, hg, h => by
    rw [pushed_drop ns g (by omega) fun j hj => h j (by omega)]
    have hlt : g < ns.length := by omega
    rw [List.drop_eq_getElem_cons hlt, pushed, if_neg]
    have := h g (by omega)
    rw [List.drop_eq_getElem_cons hlt] at this
    omega
theorem pushed_end {great : Nat} {ns : List Int} {g : Nat} (hg : g ≤ ns.length) (h : ∀ j, j < g → 100 < sumI (ns.drop j) + great) (he : g = ns.length ∨ sumI (ns.drop g) + great ≤ 100) : pushed great 0 ns = (g, ns.drop g) := by
  rw [pushed_drop ns g hg h]
  rcases he with rfl | he
  · simp [pushed]
  · cases hd : ns.drop g with
    | nil => rfl
    | cons n l => rw [pushed, if_pos (by rw [← hd]; exact he)]
theorem sumI_drop {ns : List Int} {g : Nat} (h : g < ns.length) : sumI (ns.drop g) = ns.getD g 0 + sumI (ns.drop (g + 1)) := by
  have hg : ns.getD g 0 = ns[g] := by simp [h]
  rw [List.drop_eq_getElem_cons h, hg]
  rfl
/-- What the cache is in the end. -/
theorem push_last {ns : List Int} {great g : Nat} (hs : ∀ n ∈ ns, 1 ≤ n ∧ n ≤ 9) (hl : ns.length ≤ 10) (h1 : 1 ≤ great) (h2 : great ≤ 100) (hg : g ≤ ns.length) (h : ∀ j, j < g → 100 < sumI (ns.drop j) + great) (he : g = ns.length ∨ sumI (ns.drop g) + great ≤ 100) :
    putC 100 (pushFrom 0 ns) (keyB 11) (List.replicate great 0) = pushFrom g (ns.drop g) ++ [(keyB 11, List.replicate great 0)] := by
  have hno : keyB 11 ∉ keys (pushFrom 0 ns) := fun hm => by
    obtain ⟨j, _, h3, h4⟩ := pushFrom_keys _ _ _ hm
    have := keyB_inj h4
    omega
  have hd : dropK (keyB 11) (pushFrom 0 ns) = pushFrom 0 ns := dropK_none hno
  obtain ⟨p1, _⟩ := putC_good (room := 100) (l := pushFrom 0 ns) (k := keyB 11) (d := List.replicate great 0) (by simp; omega)
  rw [p1, hd, List.length_replicate, evict_push ns 0 hs, pushed_end hg h he]
theorem push_ok {great : Nat} (h1 : 1 ≤ great) (h2 : great ≤ 100) : putB 100 (List.replicate great 0) = true := by
  unfold putB
  rw [List.length_replicate]
  simp
  omega
theorem push_facts {ns : List Int} {great g : Nat} (hs : ∀ n ∈ ns, 1 ≤ n ∧ n ≤ 9) (hg : g ≤ ns.length) :
    (total (pushFrom g (ns.drop g) ++ [(keyB 11, List.replicate great 0)]) : Int) = sumI (ns.drop g) + great ∧ (keys (pushFrom g (ns.drop g) ++ [(keyB 11, List.replicate great 0)])).reverse.length = ns.length - g + 1 := by
  refine ⟨?_, by rw [List.length_reverse, keys_length, List.length_append, pushFrom_length, List.length_drop]; rfl⟩
  rw [total_append]
  have := push_total (ns.drop g) g fun n hn => hs n (List.mem_of_mem_drop hn)
  simp [total] at *
  omega
theorem push_first {ns : List Int} {great g : Nat} (hg : g < ns.length) : (keys (pushFrom g (ns.drop g) ++ [(keyB 11, List.replicate great 0)])).reverse.getD (ns.length - g) [] = keyB (g : Int) := by
  have h1 : (ns.drop g) = ns[g] :: ns.drop (g + 1) := List.drop_eq_getElem_cons hg
  have h2 : (pushFrom (g + 1) (ns.drop (g + 1))).length = ns.length - (g + 1) := by rw [pushFrom_length, List.length_drop]
  rw [h1, pushFrom]
  simp only [keys, List.cons_append, List.map_cons, List.reverse_cons]
  rw [List.getD_eq_getElem?_getD, List.getElem?_append_right (by simp [h2]; omega)]
  have : ns.length - g - ((List.map (fun x => x.1) (pushFrom (g + 1) (ns.drop (g + 1)) ++ [(keyB 11, List.replicate great 0)])).reverse).length = 0 := by simp [h2]; omega
  rw [this]
  rfl
end Go.Proofs.Ytamhhkjddmjanaa
