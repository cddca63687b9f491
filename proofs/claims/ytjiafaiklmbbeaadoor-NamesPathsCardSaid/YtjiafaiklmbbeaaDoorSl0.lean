/- Symbolic states: resources that a world holds, slots that a frame is known to hold; a call and an operation over them. -/
import Derived.Test.YtjiafaiklmbbeaaDoorMem4
import Derived.Deep.RegionHeld3
import Derived.Deep.MidRow
import Derived.WalkKit
namespace Go.Proofs.YtjiafaiklmbbeaaDoor
open Go.RowKit
set_option linter.unusedVariables false
set_option linter.unusedSimpArgs false

/-- The first entry of a key. -/
def look {α : Type} : List (Nat × α) → Nat → Option α
  | [], _ => none
  | (k, v) :: l, j => match Nat.beq k j with
    | true => some v
    | false => look l j
theorem look_same {α : Type} (k : Nat) (v : α) (l : List (Nat × α)) : look ((k, v) :: l) k = some v := by simp [look]
theorem look_other {α : Type} {k j : Nat} (h : k ≠ j) (v : α) (l : List (Nat × α)) : look ((k, v) :: l) j = look l j := by
  have : Nat.beq k j = false := by
    cases hb : Nat.beq k j with
    | false => rfl
    | true => exact absurd (Nat.eq_of_beq_eq_true hb) h
  simp [look, this]

/-- Some blocks of a heap. -/
abbrev Hlt := Nat → Option Obj
abbrev HP := Hlt → Prop
abbrev Res := List (Nat × HP)
abbrev Slots := List (Nat × Value)
structure Env where
  os : Os
  tape : Nat → Question → Nat
  output : Array (Nat × ByteArray)
def In (h : Hlt) (w : World) : Prop := ∀ g o, h g = some o → w.heap[g]? = some o
theorem In.lt {h : Hlt} {w : World} (hi : In h w) {g : Nat} (hg : (h g).isSome = true) : g < w.heap.size := by
  obtain ⟨o, ho⟩ := Option.isSome_iff_exists.1 hg
  exact lt_of_heap (hi g o ho)
/-- The world holds these resources, each in blocks of its own. -/
def Sat (E : Env) (L : Res) (w : World) : Prop :=
  (w.os = E.os ∧ w.tape = E.tape ∧ w.output = E.output) ∧ ∃ hs : Nat → Hlt, (∀ r P, look L r = some P → P (hs r)) ∧ (∀ r r' g, r ≠ r' → (hs r g).isSome = true → hs r' g = none) ∧ ∀ r, In (hs r) w

section
variable {E : Env} {L L' : Res} {w w' : World} {r : Nat} {P P' : HP}
theorem Sat.read (hS : Sat E L w) (hr : look L r = some P) : ∃ h, P h ∧ In h w := by
  obtain ⟨_, hs, h1, h2, h3⟩ := hS
  exact ⟨hs r, h1 r P hr, h3 r⟩
/-- One resource is turned. -/
theorem Sat.step (hS : Sat E L w) (hr : look L r = some P)
    (H : ∀ h, P h → In h w → ∃ C h', (∀ k ∈ C, (h k).isSome = true) ∧ Chg C w w' ∧ P' h' ∧ In h' w' ∧ ∀ g, (h' g).isSome = true → (h g).isSome = true ∨ w.heap.size ≤ g) : Sat E ((r, P') :: L) w' := by
  obtain ⟨⟨e1, e2, e3⟩, hs, h1, h2, h3⟩ := hS
  obtain ⟨C, h', c1, c2, c3, c4, c5⟩ := H (hs r) (h1 r P hr) (h3 r)
  refine ⟨⟨c2.os.trans e1, c2.tape.trans e2, c2.output.trans e3⟩, fun r' => if r' = r then h' else hs r', ?_, ?_, ?_⟩
  · intro r' P1 h
    by_cases hrr : r' = r
    · subst hrr
      rw [look_same] at h
      injection h with h
      subst h
      simpa using c3
    · rw [look_other (Ne.symm hrr)] at h
      simpa [hrr] using h1 r' P1 h
  · intro r1 r2 g hne hg
    by_cases q1 : r1 = r
    · subst q1
      have q2 : ¬ r2 = r1 := Ne.symm hne
      simp only [if_true, q2, if_false] at hg ⊢
      rcases c5 g hg with h | h
      · exact h2 r1 r2 g hne h
      · cases hv : hs r2 g with
        | none => rfl
        | some o => have := lt_of_heap (h3 r2 g o hv); omega
    · simp only [q1, if_false] at hg
      by_cases q2 : r2 = r
      · subst q2
        simp only [if_true]
        cases hv : h' g with
        | none => rfl
        | some o =>
          rcases c5 g (by simp [hv]) with h | h
          · have := h2 r1 r2 g hne hg; simp [this] at h
          · have := (h3 r1).lt hg; omega
      · simp only [q2, if_false]
        exact h2 r1 r2 g hne hg
  · intro r'
    by_cases hrr : r' = r
    · subst hrr; simpa using c4
    · simp only [hrr, if_false]
      intro g o hg
      rw [c2.block g ((h3 r').lt (by simp [hg])) (fun hm => by have := h2 r r' g (Ne.symm hrr) (c1 g hm); simp [this] at hg)]
      exact h3 r' g o hg
/-- A new resource, in new blocks. -/
theorem Sat.new (hS : Sat E L w) (r : Nat) (hc : Chg [] w w') (h' : Hlt) (c3 : P' h') (c4 : In h' w') (c5 : ∀ g, (h' g).isSome = true → w.heap.size ≤ g) : Sat E ((r, P') :: L) w' := by
  have hS1 : Sat E ((r, fun _ => True) :: L) w := by
    obtain ⟨e, hs, h1, h2, h3⟩ := hS
    refine ⟨e, fun r' => if r' = r then (fun _ => none) else hs r', ?_, ?_, ?_⟩
    · intro r' P1 h
      by_cases hrr : r' = r
      · subst hrr; rw [look_same] at h; injection h with h; subst h; trivial
      · rw [look_other (Ne.symm hrr)] at h; simpa [hrr] using h1 r' P1 h
    · intro r1 r2 g hne hg
      by_cases q1 : r1 = r
      · simp [q1] at hg
      · simp only [q1, if_false] at hg
        by_cases q2 : r2 = r
        · simp [q2]
        · simp only [q2, if_false]; exact h2 r1 r2 g hne hg
    · intro r' g o hg
      by_cases hrr : r' = r
      · simp [hrr] at hg
      · simp only [hrr, if_false] at hg; exact h3 r' g o hg
  have hS2 := hS1.step (P' := P') (w' := w') (look_same r _ L) (fun h _ hi => ⟨[], h', by simp, hc, c3, c4, fun g hg => .inr (c5 g hg)⟩)
  obtain ⟨e, hs, h1, h2, h3⟩ := hS2
  refine ⟨e, hs, fun r' P1 h => h1 r' P1 ?_, h2, h3⟩
  by_cases hrr : r' = r
  · subst hrr; rw [look_same] at h ⊢; exact h
  · rw [look_other (Ne.symm hrr)] at h; rw [look_other (Ne.symm hrr), look_other (Ne.symm hrr)]; exact h
theorem Sat.same (hS : Sat E L w) (hc : Chg [] w w') : Sat E L w' := by
  obtain ⟨⟨e1, e2, e3⟩, hs, h1, h2, h3⟩ := hS
  exact ⟨⟨hc.os.trans e1, hc.tape.trans e2, hc.output.trans e3⟩, hs, h1, h2, fun r g o hg => (hc.block g ((h3 r).lt (by simp [hg])) (by simp)).trans (h3 r g o hg)⟩
theorem Sat.drew (hS : Sat E L w) : Sat E L w.drew := hS.same (Chg.refl [] w).drew
theorem Sat.sub (hS : Sat E L w) (h : ∀ r P, look L' r = some P → look L r = some P) : Sat E L' w := by
  obtain ⟨e, hs, h1, h2, h3⟩ := hS
  exact ⟨e, hs, fun r P hr => h1 r P (h r P hr), h2, h3⟩
theorem Sat.cons (hS : Sat E L w) (hr : look L r = some P) (hP : ∀ h, P h → P' h) : Sat E ((r, P') :: L) w :=
  hS.step hr fun h hp hi => ⟨[], h, by simp, Chg.refl _ _, hP h hp, hi, fun g hg => .inl hg⟩
theorem Sat.get (hS : Sat E L w) (hr : look L r = some P) {φ : Prop} (hP : ∀ h, P h → φ) : φ := by
  obtain ⟨h, hp, _⟩ := hS.read hr
  exact hP h hp
theorem Sat.ex {α : Type} {Q : α → HP} (hS : Sat E L w) (hr : look L r = some P) (hP : ∀ h, P h → ∃ x, Q x h) : ∃ x, Sat E ((r, Q x) :: L) w := by
  obtain ⟨e, hs, h1, h2, h3⟩ := hS
  obtain ⟨x, hx⟩ := hP (hs r) (h1 r P hr)
  refine ⟨x, e, hs, fun r' P1 h => ?_, h2, h3⟩
  by_cases hrr : r = r'
  · subst hrr; rw [look_same] at h; injection h with h; subst h; exact hx
  · rw [look_other hrr] at h; exact h1 r' P1 h
end

/-- Resources one after another, numbered. -/
def En (b : Nat) : List HP → Res
  | [] => []
  | P :: l => (b, P) :: En (b + 1) l
theorem look_En_lt (Ps : List HP) : ∀ b r, r < b → look (En b Ps) r = none := by
  induction Ps with
  | nil => intro b r _; rfl
  | cons P l ih => intro b r h; rw [En, look_other (by omega)]; exact ih _ _ (by omega)
theorem look_En (Ps : List HP) : ∀ b k, look (En b Ps) (b + k) = Ps[k]? := by
  induction Ps with
  | nil => intro b k; rfl
  | cons P l ih =>
    intro b k
    rw [En]
    cases k with
    | zero => exact look_same b P _
    | succ k => rw [look_other (by omega), show b + (k + 1) = b + 1 + k by omega, ih]; rfl
def LookAll (L : Res) : List Nat → List HP → Prop
  | [], [] => True
  | r :: ids, P :: Ps => look L r = some P ∧ LookAll L ids Ps
  | _, _ => False
def lookL (L : Res) : List Nat → Option (List HP)
  | [] => some []
  | r :: ids => match look L r, lookL L ids with
    | some P, some Ps => some (P :: Ps)
    | _, _ => none
theorem LookAll.of {L : Res} : ∀ {ids : List Nat} {Ps : List HP}, lookL L ids = some Ps → LookAll L ids Ps
  | [], Ps, h => by simp [lookL] at h; subst h; trivial
  | r :: ids, Ps, h => by
    rw [lookL] at h
    cases h1 : look L r with
    | none => simp [h1] at h
    | some P =>
      cases h2 : lookL L ids with
      | none => simp [h1, h2] at h
      | some Qs =>
        simp [h1, h2] at h
        subst h
        exact ⟨h1, LookAll.of h2⟩
theorem LookAll.get {L : Res} : ∀ {ids : List Nat} {Ps : List HP}, LookAll L ids Ps → ids.length = Ps.length ∧ ∀ (k r : Nat) (P : HP), ids[k]? = some r → Ps[k]? = some P → look L r = some P
  | [], [], _ => ⟨rfl, fun k r P h => by simp at h⟩
  | r :: ids, P :: Ps, h => by
    obtain ⟨h1, h2⟩ := h
    obtain ⟨i1, i2⟩ := LookAll.get h2
    refine ⟨by simp [i1], fun k r' P' hk hP => ?_⟩
    cases k with
    | zero => simp at hk hP; subst hk; subst hP; exact h1
    | succ k => exact i2 k r' P' (by simpa using hk) (by simpa using hP)
  | [], _ :: _, h => h.elim
  | _ :: _, [], h => h.elim
/-- Resources side by side, in one. -/
def starL (Ps : List HP) : HP := fun h => ∃ hs : Nat → Hlt, (∀ (k : Nat) (P : HP), Ps[k]? = some P → P (hs k)) ∧ (∀ k k' g, k ≠ k' → (hs k g).isSome = true → hs k' g = none) ∧ ∀ k g o, hs k g = some o → h g = some o
def zipR : List Nat → List HP → Res
  | r :: ids, P :: Ps => (r, P) :: zipR ids Ps
  | _, _ => []

theorem nodup_get {l : List Nat} (h : l.Nodup) {i j : Nat} {x : Nat} (hi : l[i]? = some x) (hj : l[j]? = some x) : i = j := by
  rw [List.getElem?_eq_some_iff] at hi hj
  obtain ⟨h1, h2⟩ := hi
  obtain ⟨h3, h4⟩ := hj
  exact (List.getElem_inj h).1 (h2.trans h4.symm)
def hOf (hs : Nat → Hlt) : Option Nat → Hlt
  | some i => hs i
  | none => fun _ => none
theorem Sat.pick {E : Env} {L : Res} {w : World} (hS : Sat E L w) {ids : List Nat} {Ps : List HP} (hl : LookAll L ids Ps) (hn : ids.Nodup) : Sat E (En 0 Ps) w := by
  obtain ⟨e, hs, h1, h2, h3⟩ := hS
  obtain ⟨hlen, hget⟩ := hl.get
  refine ⟨e, fun r => hOf hs ids[r]?, ?_, ?_, ?_⟩
  · intro r P h
    have h' := look_En Ps 0 r
    rw [Nat.zero_add] at h'
    rw [h'] at h
    have hr : r < ids.length := by rw [hlen]; exact (List.getElem?_eq_some_iff.1 h).1
    have hi : ids[r]? = some ids[r] := List.getElem?_eq_getElem hr
    simp only [hi, hOf]
    exact h1 _ P (hget r _ P hi h)
  · intro r r' g hne hg
    cases hi : ids[r]? with
    | none => simp [hi, hOf] at hg
    | some i =>
      simp only [hi, hOf] at hg
      cases hj : ids[r']? with
      | none => simp only [hOf, *]
      | some j =>
        simp only [hj, hOf]
        exact h2 i j g (fun hij => hne (nodup_get hn hi (hij ▸ hj))) hg
  · intro r
    cases hi : ids[r]? with
    | none => intro g o h; simp [hi, hOf] at h
    | some i => simp only [hi, hOf]; exact h3 i
theorem Sat.pack {E : Env} {L : Res} {w : World} (hS : Sat E L w) {J C : List Nat} {Js Cs : List HP} (hJ : LookAll L J Js) (hC : LookAll L C Cs) (hn : (J ++ C).Nodup) : Sat E (En 0 (starL Js :: Cs)) w := by
  obtain ⟨e, hs, h1, h2, h3⟩ := hS
  obtain ⟨jl, jg⟩ := hJ.get
  obtain ⟨cl, cg⟩ := hC.get
  have nJ := (List.nodup_append.1 hn).1
  have nC := (List.nodup_append.1 hn).2.1
  have nJC := (List.nodup_append.1 hn).2.2
  let hk : Nat → Hlt := fun k => hOf hs J[k]?
  have hkd : ∀ k k' g, k ≠ k' → (hk k g).isSome = true → hk k' g = none := by
    intro k k' g hne hg
    simp only [hk] at hg ⊢
    cases hi : J[k]? with
    | none => simp [hi, hOf] at hg
    | some i =>
      simp only [hi, hOf] at hg
      cases hj : J[k']? with
      | none => simp only [hOf, *]
      | some j => simp only [hOf]; exact h2 i j g (fun hij => hne (nodup_get nJ hi (hij ▸ hj))) hg
  -- the union of the rest
  let hu : Hlt := fun g => match (List.range J.length).find? (fun k => (hk k g).isSome) with | some k => hk k g | none => none
  have hsub : ∀ k g o, hk k g = some o → hu g = some o := by
    intro k g o h
    have hkl : k < J.length := by
      rcases Nat.lt_or_ge k J.length with h' | h'
      · exact h'
      · simp only [hk, List.getElem?_eq_none h', hOf] at h; cases h
    simp only [hu]
    cases hf : (List.range J.length).find? (fun k => (hk k g).isSome) with
    | none =>
      have := List.find?_eq_none.1 hf k (by simpa using hkl)
      simp [h] at this
    | some k' =>
      have hk' : (hk k' g).isSome = true := List.find?_some (p := fun k => (hk k g).isSome) hf
      by_cases hkk : k' = k
      · subst hkk; exact h
      · have := hkd k' k g hkk hk'
        simp [this] at h
  have hfrom : ∀ g, (hu g).isSome = true → ∃ k, (hk k g).isSome = true ∧ hu g = hk k g := by
    intro g hg
    simp only [hu] at hg ⊢
    cases hf : (List.range J.length).find? (fun k => (hk k g).isSome) with
    | none => simp [hf] at hg
    | some k' => exact ⟨k', List.find?_some (p := fun k => (hk k g).isSome) hf, rfl⟩
  have hkJ : ∀ k g, (hk k g).isSome = true → ∃ i, J[k]? = some i ∧ hk k g = hs i g := by
    intro k g hg
    simp only [hk] at hg ⊢
    cases hi : J[k]? with
    | none => simp [hi, hOf] at hg
    | some i => exact ⟨i, rfl, by simp only [hOf]⟩
  refine ⟨e, fun r => match r with | 0 => hu | r + 1 => hOf hs C[r]?, ?_, ?_, ?_⟩
  · intro r P h
    cases r with
    | zero =>
      rw [En, look_same] at h
      injection h with h
      subst h
      refine ⟨hk, fun k P hP => ?_, hkd, hsub⟩
      have hkl : k < J.length := by rw [jl]; exact (List.getElem?_eq_some_iff.1 hP).1
      have hi : J[k]? = some J[k] := List.getElem?_eq_getElem hkl
      simp only [hk, hi, hOf]
      exact h1 _ P (jg k _ P hi hP)
    | succ r =>
      rw [En, look_other (by omega)] at h
      have h' := look_En Cs 1 r
      rw [show 0 + 1 = 1 from rfl, show r + 1 = 1 + r by omega, h'] at h
      have hrl : r < C.length := by rw [cl]; exact (List.getElem?_eq_some_iff.1 h).1
      have hi : C[r]? = some C[r] := List.getElem?_eq_getElem hrl
      simp only [hi, hOf]
      exact h1 _ P (cg r _ P hi h)
  · intro r r' g hne hg
    cases r with
    | zero =>
      cases r' with
      | zero => exact absurd rfl hne
      | succ r' =>
        dsimp only at hg ⊢
        cases hi : C[r']? with
        | none => simp only [hOf, *]
        | some i =>
          simp only [hOf]
          obtain ⟨k, k1, _⟩ := hfrom g hg
          obtain ⟨j, j1, j2⟩ := hkJ k g k1
          rw [j2] at k1
          exact h2 j i g (fun hij => nJC j (List.mem_of_getElem? j1) i (List.mem_of_getElem? hi) hij) k1
    | succ r =>
      dsimp only at hg
      cases hi : C[r]? with
      | none => simp [hi, hOf] at hg
      | some i =>
        simp only [hi, hOf] at hg
        cases r' with
        | zero =>
          dsimp only
          cases hv : hu g with
          | none => simp only [hOf, *]
          | some o =>
            obtain ⟨k, k1, k2⟩ := hfrom g (by simp [hv])
            obtain ⟨j, j1, j2⟩ := hkJ k g k1
            have := h2 i j g (fun hij => nJC j (List.mem_of_getElem? j1) i (List.mem_of_getElem? hi) hij.symm) hg
            rw [j2, this] at k1
            cases k1
        | succ r' =>
          dsimp only
          cases hj : C[r']? with
          | none => simp only [hOf, *]
          | some j => simp only [hOf]; exact h2 i j g (fun hij => hne (by rw [nodup_get nC hi (hij ▸ hj)])) hg
  · intro r
    cases r with
    | zero =>
      intro g o hg
      obtain ⟨k, k1, k2⟩ := hfrom g (by simp [show hu g = some o from hg])
      obtain ⟨j, j1, j2⟩ := hkJ k g k1
      exact h3 j g o (by rw [← j2, ← k2]; exact hg)
    | succ r =>
      dsimp only
      cases hi : C[r]? with
      | none => intro g o h; simp [hi, hOf] at h
      | some i => exact h3 i
theorem look_append {α : Type} : ∀ (l m : List (Nat × α)) (r : Nat), look (l ++ m) r = (look l r).or (look m r)
  | [], m, r => by simp [look]
  | (k, v) :: l, m, r => by
    by_cases h : k = r
    · subst h; rw [List.cons_append, look_same, look_same]; rfl
    · rw [List.cons_append, look_other h, look_other h]; exact look_append l m r
theorem look_zipR : ∀ {J : List Nat} {Js : List HP} {r : Nat} {P : HP}, look (zipR J Js) r = some P → ∃ k : Nat, J[k]? = some r ∧ Js[k]? = some P
  | [], _, _, _, h => by simp [zipR, look] at h
  | _ :: _, [], _, _, h => by simp [zipR, look] at h
  | j :: J, Q :: Js, r, P, h => by
    by_cases hj : j = r
    · subst hj; rw [zipR, look_same] at h; injection h with h; subst h; exact ⟨0, rfl, rfl⟩
    · rw [zipR, look_other hj] at h
      obtain ⟨k, h1, h2⟩ := look_zipR h
      exact ⟨k + 1, by simpa using h1, by simpa using h2⟩
theorem Sat.unpack {E : Env} {w : World} {J : List Nat} {Js Cs : List HP} (b : Nat) (hS : Sat E (En 0 (starL Js :: Cs)) w) (hn : J.Nodup) (hb : ∀ j ∈ J, j < b) : Sat E (En b Cs ++ zipR J Js) w := by
  obtain ⟨e, hs, h1, h2, h3⟩ := hS
  obtain ⟨hk, k1, k2, k3⟩ := h1 0 _ (look_same _ _ _)
  refine ⟨e, fun r => if b ≤ r then hs (r - b + 1) else if r ∈ J then hk (J.idxOf r) else fun _ => none, ?_, ?_, ?_⟩
  · intro r P h
    rw [look_append] at h
    by_cases hbr : b ≤ r
    · simp only [hbr, if_true]
      obtain ⟨k, rfl⟩ : ∃ k, r = b + k := ⟨r - b, by omega⟩
      rw [look_En] at h
      cases hc : Cs[k]? with
      | none =>
        rw [hc] at h
        simp at h
        obtain ⟨i, i1, _⟩ := look_zipR h
        have := hb _ (List.mem_of_getElem? i1)
        omega
      | some Q =>
        rw [hc] at h
        simp at h
        subst h
        refine h1 _ Q ?_
        rw [En, look_other (by omega), show b + k - b + 1 = 1 + k by omega, look_En]
        exact hc
    · rw [look_En_lt _ _ _ (by omega)] at h
      simp at h
      obtain ⟨i, i1, i2⟩ := look_zipR h
      have hm := List.mem_of_getElem? i1
      simp only [hbr, if_false, hm, if_true]
      have : J.idxOf r = i := by
        have hlt := List.idxOf_lt_length_of_mem hm
        refine nodup_get hn (x := r) ?_ i1
        rw [List.getElem?_eq_getElem hlt, List.getElem_idxOf]
      rw [this]
      exact k1 i P i2
  · intro r r' g hne hg
    by_cases hbr : b ≤ r
    · simp only [hbr, if_true] at hg
      by_cases hbr' : b ≤ r'
      · simp only [hbr', if_true]
        exact h2 _ _ g (by omega) hg
      · simp only [hbr', if_false]
        by_cases hm : r' ∈ J
        · simp only [hm, if_true]
          have h0 := h2 _ 0 g (by omega) hg
          cases hv : hk (J.idxOf r') g with
          | none => rfl
          | some o => rw [k3 _ _ _ hv] at h0; cases h0
        · simp [hm]
    · simp only [hbr, if_false] at hg
      by_cases hm : r ∈ J
      · simp only [hm, if_true] at hg
        by_cases hbr' : b ≤ r'
        · simp only [hbr', if_true]
          obtain ⟨o, ho⟩ := Option.isSome_iff_exists.1 hg
          exact h2 0 _ g (by omega) (by rw [k3 _ _ _ ho]; rfl)
        · simp only [hbr', if_false]
          by_cases hm' : r' ∈ J
          · simp only [hm', if_true]
            refine k2 _ _ g (fun hij => hne ?_) hg
            have l1 := List.getElem_idxOf (List.idxOf_lt_length_of_mem hm)
            have l2 := List.getElem_idxOf (List.idxOf_lt_length_of_mem hm')
            rw [← l1, ← l2]
            simp only [hij]
          · simp [hm']
      · simp [hm] at hg
  · intro r
    by_cases hbr : b ≤ r
    · simp only [hbr, if_true]; exact h3 _
    · simp only [hbr, if_false]
      by_cases hm : r ∈ J
      · simp only [hm, if_true]
        exact fun g o hg => h3 0 g o (k3 _ _ _ hg)
      · simp only [hm, if_false]
        intro g o hg; cases hg

/-- What a frame is known to hold. -/
def Agr (n : Nat) (K : Slots) (a : Act) : Prop := a.defers = [] ∧ a.tmps.size = n ∧ ∀ k v, look K k = some v → a.tmps[k]? = some v
def evK (K : Slots) : Operand → Option Value
  | .tmp t => look K t
  | .const v => some v
  | .global g => some (.pointer (some ⟨g, 0, none⟩))
  | .func f => some (.func (.func f) #[] #[])
theorem Agr.eval {n : Nat} {K : Slots} {a : Act} (h : Agr n K a) {x : Operand} {v : Value} (hx : evK K x = some v) : a.eval x = v := by
  cases x with
  | tmp t => simp [Act.eval, h.2.2 t v hx]
  | const c => simpa [evK, Act.eval] using hx
  | global g => simpa [evK, Act.eval] using hx
  | func f => simpa [evK, Act.eval] using hx
theorem Agr.put {n : Nat} {K : Slots} {a : Act} (h : Agr n K a) {d : Nat} (hd : d < n) (v : Value) : Agr n ((d, v) :: K) (a.put (some d) v) := by
  refine ⟨h.1, by simp [Act.put, h.2.1], fun k u hk => ?_⟩
  have hsz := h.2.1
  by_cases hdk : d = k
  · subst hdk; rw [look_same] at hk; injection hk with hk; subst hk; simp [Act.put, hsz, hd]
  · rw [look_other hdk] at hk; simp [Act.put, Array.getElem?_setIfInBounds_ne hdk]; exact h.2.2 k u hk
theorem Agr.sub {n : Nat} {K K' : Slots} {a : Act} (h : Agr n K a) (hs : ∀ k v, look K' k = some v → look K k = some v) : Agr n K' a := ⟨h.1, h.2.1, fun k v hk => h.2.2 k v (hs k v hk)⟩

/-- The entries of one list stand in the other. -/
def AllIn {α : Type} (L : List (Nat × α)) : List (Nat × α) → Prop
  | [] => True
  | (r, P) :: l => look L r = some P ∧ AllIn L l
theorem AllIn.look {α : Type} {L : List (Nat × α)} : ∀ {l : List (Nat × α)}, AllIn L l → ∀ r P, look l r = some P → look L r = some P
  | [], _, r, P, h => by simp [Proofs.YtjiafaiklmbbeaaDoor.look] at h
  | (k, Q) :: l, h, r, P, hr => by
    by_cases hk : k = r
    · subst hk; rw [look_same] at hr; injection hr with hr; subst hr; exact h.1
    · rw [look_other hk] at hr; exact h.2.look r P hr

section
variable (P : Program) (E : Env) (n : Nat)
/-- Code c, from any frame and world of this kind. -/
def W (c : Code) (K : Slots) (L : Res) (Q : Exit → Act → World → Prop) : Prop := ∀ a w, Agr n K a → Sat E L w → Code.wp P c Q a w
/-- The post at an exit. -/
def X (Q : Exit → Act → World → Prop) (e : Exit) (K : Slots) (L : Res) : Prop := ∀ a w, Agr n K a → Sat E L w → Q e a w
def WL (ops : Array Oper) (l : List Oper) (K : Slots) (L : Res) (Q : Exit → Act → World → Prop) : Prop := ∀ a w, Agr n K a → Sat E L w → wpList P ops Q l a w
/-- One operation: it leaves a value, and the resources turned. -/
def OpT (o : Oper) (K : Slots) (L : Res) (C : Value → Res → Prop) : Prop :=
  ∀ a w (Kc : Act → World → Prop) Q, Agr n K a → Sat E L w → (∀ v L' w', C v L' → Sat E L' w' → Kc (a.put o.dst v) w') → o.wp P a w Kc Q
/-- What a call returns, and the resources it leaves. -/
def Ret (F : HP) (R : Value → List HP → Prop) : Ending → World → Prop := fun e w' => ∃ v Ps, e = .returned v ∧ R v Ps ∧ Sat E (En 0 (F :: Ps)) w'
end
/-- A call: what it is given besides what it may only read (F), what it returns. -/
def CallsS (P : Program) (f : FuncId) (args : Array Value) (F : HP) (Ps : List HP) (R : Value → List HP → Prop) : Prop :=
  ∀ E w, Sat E (En 0 (F :: Ps)) w → Calls P f args w (Ret E F R)

section
variable {P : Program} {E : Env} {n : Nat} {K K' : Slots} {L L' : Res} {Q : Exit → Act → World → Prop} {ops : Array Oper} {o : Oper} {rest : List Oper} {C : Value → Res → Prop}
def enumK (b : Nat) : List Value → Slots
  | [] => []
  | v :: l => (b, v) :: enumK (b + 1) l
theorem look_enumK (l : List Value) : ∀ b k v, look (enumK b l) k = some v → b ≤ k ∧ l[k - b]? = some v := by
  induction l with
  | nil => intro b k v h; simp [enumK, look] at h
  | cons u l ih =>
    intro b k v h
    rw [enumK] at h
    by_cases hb : b = k
    · subst hb; rw [look_same] at h; simpa using h
    · rw [look_other hb] at h
      obtain ⟨h1, h2⟩ := ih _ _ _ h
      refine ⟨by omega, ?_⟩
      rw [show k - b = (k - (b + 1)) + 1 by omega]
      simpa using h2
theorem callsS_enter {f : FuncId} {fn : Func} {c : Code} {args : Array Value} {F : HP} {Ps : List HP} {R : Value → List HP → Prop}
    (hf : P.funcs[f]? = some fn) (hb : fn.body = some c) (hn : fn.ntmps = n) (ha : args.size ≤ n)
    (h : ∀ E, W P E n c (enumK 0 args.toList) (En 0 (F :: Ps)) (bodyPost P fn (Ret E F R))) : CallsS P f args F Ps R := by
  intro E w hS
  refine calls_of_wp hf hb (h E _ w ⟨rfl, by simp [hn]; omega, fun k v hk => ?_⟩ hS)
  obtain ⟨_, h2⟩ := look_enumK _ _ _ _ hk
  have hlt : k < args.size := by simpa using (List.getElem?_eq_some_iff.1 h2).1
  rw [Array.getElem?_append_left hlt]
  simpa using h2

theorem W.pre {c : Code} (h : W P E n c K' L' Q) (hK : AllIn K K') (hL : AllIn L L') : W P E n c K L Q := fun a w hA hS => h a w (hA.sub hK.look) (hS.sub hL.look)
theorem X.pre {e : Exit} (h : X E n Q e K' L') (hK : AllIn K K') (hL : AllIn L L') : X E n Q e K L := fun a w hA hS => h a w (hA.sub hK.look) (hS.sub hL.look)
theorem W_seq {x y : Code} (h : W P E n x K L (Exit.then (y.wp P Q) Q)) : W P E n (.seq x y) K L Q := fun a w hA hS => wp_seq (h a w hA hS)
theorem X_then {y : Code} (h : W P E n y K L Q) : X E n (Exit.then (y.wp P Q) Q) .normal K L := h
theorem X_then_exit {N : Act → World → Prop} {id : Nat} (h : X E n Q (.exit id) K L) : X E n (Exit.then N Q) (.exit id) K L := h
theorem X_then_ret {N : Act → World → Prop} (h : X E n Q .ret K L) : X E n (Exit.then N Q) .ret K L := h
theorem W_block {id : Nat} {c : Code} (h : W P E n c K L (Exit.inBlock id Q)) : W P E n (.block id c) K L Q := fun a w hA hS => wp_block (h a w hA hS)
theorem X_block {id : Nat} (h : X E n Q .normal K L) : X E n (Exit.inBlock id Q) .normal K L := h
theorem X_block_ret {id : Nat} (h : X E n Q .ret K L) : X E n (Exit.inBlock id Q) .ret K L := h
theorem X_block_exit {id : Nat} (h : X E n Q .normal K L) : X E n (Exit.inBlock id Q) (.exit id) K L := fun a w hA hS => by
  simp only [Exit.inBlock, if_true]; exact h a w hA hS
theorem X_block_out {id id' : Nat} (hne : id' ≠ id) (h : X E n Q (.exit id') K L) : X E n (Exit.inBlock id Q) (.exit id') K L := fun a w hA hS => by
  simp only [Exit.inBlock, hne, if_false]; exact h a w hA hS
theorem W_skip (h : X E n Q .normal K L) : W P E n .skip K L Q := fun a w hA hS => wp_skip (h a w hA hS)
theorem W_ret (h : X E n Q .ret K L) : W P E n .ret K L Q := fun a w hA hS => wp_ret (h a w hA hS)
theorem W_exit {id : Nat} (h : X E n Q (.exit id) K L) : W P E n (.exit id) K L Q := fun a w hA hS => wp_exit (h a w hA hS)
theorem W_cond {x y : Code} {c : Operand} {b : Bool} (hc : evK K c = some (.bool b)) (ht : b = true → W P E n x K L Q) (hf : b = false → W P E n y K L Q) : W P E n (.cond c x y) K L Q :=
  fun a w hA hS => wp_cond_split (hA.eval hc) (fun h => ht h a w hA hS) (fun h => hf h a w hA hS)
theorem W_true {x y : Code} {c : Operand} {b : Bool} (hc : evK K c = some (.bool b)) (hb : b = true) (ht : W P E n x K L Q) : W P E n (.cond c x y) K L Q :=
  W_cond hc (fun _ => ht) (fun h => by rw [hb] at h; cases h)
theorem W_false {x y : Code} {c : Operand} {b : Bool} (hc : evK K c = some (.bool b)) (hb : b = false) (hf : W P E n y K L Q) : W P E n (.cond c x y) K L Q :=
  W_cond hc (fun h => by rw [hb] at h; cases h) (fun _ => hf)
theorem wp_loop_any {α : Type} {c : Code} (I : α → Act → World → Prop) (μ : α → Nat) (round : ∀ x a w, I x a w → c.wp P (Exit.then (fun a' w' => ∃ y, I y a' w' ∧ μ y < μ x) Q) a w) (x : α) (a : Act) (w : World) (h₀ : I x a w) : (Code.loop c).wp P Q a w := by
  intro b k cs
  have key : ∀ m x a w, μ x = m → I x a w → ∃ e a' w', Q e a' w' ∧ Arrives P (lone (b.at a (.code c :: .inLoop c :: k)) cs w) b k cs e a' w' := by
    intro m
    induction m using Nat.strongRecOn with
    | _ m ih =>
      intro x a w hn hI
      obtain ⟨e, a₁, w₁, hq, harr⟩ := round x a w hI b (.inLoop c :: k) cs
      cases e with
      | normal =>
        obtain ⟨y, hI₁, hlt⟩ := hq
        obtain ⟨e₂, a₂, w₂, hq₂, harr₂⟩ := ih (μ y) (hn ▸ hlt) y a₁ w₁ rfl hI₁
        exact ⟨e₂, a₂, w₂, hq₂, .of_steps (Steps.trans harr (.one step_inLoop)) harr₂⟩
      | exit id => exact ⟨_, a₁, w₁, hq, .pass (x := .inLoop c) rfl (fun _ _ => .inl (by simp)) harr⟩
      | goto l => exact ⟨_, a₁, w₁, hq, .pass (x := .inLoop c) rfl (fun _ _ => .inl (by simp)) harr⟩
      | ret => exact ⟨_, a₁, w₁, hq, .pass (x := .inLoop c) rfl (fun _ _ => .inl (by simp)) harr⟩
      | panic ch => exact ⟨_, a₁, w₁, hq, .pass (x := .inLoop c) rfl (fun _ _ => .inl (by simp)) harr⟩
      | outgrown => exact ⟨_, a₁, w₁, hq, .pass (x := .inLoop c) rfl (fun _ _ => .inl (by simp)) harr⟩
  obtain ⟨e, a', w', hq, harr⟩ := key _ x a w rfl h₀
  exact ⟨e, a', w', hq, .of_steps (.one step_loop) harr⟩
/-- A loop: what holds at each round's head, told of some data; a measure. -/
theorem W_loop {α : Type} {c : Code} (Kf : α → Slots) (Lf : α → Res) (φ : α → Prop) (μ : α → Nat) (x0 : α) (h0 : φ x0) (hK : AllIn K (Kf x0)) (hL : AllIn L (Lf x0))
    (round : ∀ x, φ x → W P E n c (Kf x) (Lf x) (Exit.then (fun a w => ∃ y, φ y ∧ μ y < μ x ∧ Agr n (Kf y) a ∧ Sat E (Lf y) w) Q)) : W P E n (.loop c) K L Q :=
  fun a w hA hS => wp_loop_any (fun x a w => φ x ∧ Agr n (Kf x) a ∧ Sat E (Lf x) w) μ (fun x a w ⟨hx, hA, hS⟩ => Code.wp_mono (fun e a' w' hq => by
    cases e with
    | normal => obtain ⟨y, y1, y2, y3, y4⟩ := hq; exact ⟨y, ⟨y1, y3, y4⟩, y2⟩
    | _ => exact hq) (round x hx a w hA hS)) x0 a w ⟨h0, hA.sub hK.look, hS.sub hL.look⟩
theorem X_round {α : Type} {Kf : α → Slots} {Lf : α → Res} {φ : α → Prop} {μ : α → Nat} {x : α} (y : α) (hy : φ y) (hm : μ y < μ x) (hK : AllIn K (Kf y)) (hL : AllIn L (Lf y)) :
    X E n (Exit.then (fun a w => ∃ y, φ y ∧ μ y < μ x ∧ Agr n (Kf y) a ∧ Sat E (Lf y) w) Q) .normal K L := fun a w hA hS => ⟨y, hy, hm, hA.sub hK.look, hS.sub hL.look⟩

theorem W_region {id : Nat} {ops : Array Oper} (h : WL P E n ops ops.toList K L Q) : W P E n (.region id ops false) K L Q := fun a w hA hS => wp_region_list (h a w hA hS)
theorem WL_nil (h : X E n Q .normal K L) : WL P E n ops [] K L Q := h
theorem WL_cons {d : Nat} (hg : o.guard = none) (hd : o.dst = some d) (hn : d < n) (h : OpT P E n o K L (fun v L' => WL P E n ops rest ((d, v) :: K) L' Q)) : WL P E n ops (o :: rest) K L Q :=
  fun a w hA hS => wpList_plain hg fun Kc hK => h a w Kc Q hA hS fun v L' w' hC hS' => hK _ _ (by rw [hd]; exact hC _ _ (hA.put hn v) hS')
theorem WL_cons0 (hg : o.guard = none) (hd : o.dst = none) (h : OpT P E n o K L (fun _ L' => WL P E n ops rest K L' Q)) : WL P E n ops (o :: rest) K L Q :=
  fun a w hA hS => wpList_plain hg fun Kc hK => h a w Kc Q hA hS fun v L' w' hC hS' => hK _ _ (by rw [hd]; exact hC _ _ hA hS')
/-- A value that is there only if c. -/
def gv (c : Bool) (v : Value) : Value := match c with | true => v | false => undef
theorem ev_gv {x : Operand} {c : Bool} {v : Value} (h : evK K x = some (gv c v)) (hc : c = true) : evK K x = some v := by subst hc; exact h
def boolOf : Value → Option Bool
  | .bool b => some b
  | _ => none
theorem yielded_of {n : Nat} {a : Act} {K : Slots} (hA : Agr n K a) {ops : Array Oper} {j d : Nat} {v : Value} (hj : (ops[j]?).bind (·.dst) = some d) (hb : look K d = some v) : yielded ops a.tmps j = boolOf v := by
  unfold yielded
  rw [hj]
  simp only [Option.bind_some, hA.2.2 d v hb]
  cases v <;> rfl
theorem WL_guard {d j dj : Nat} {want b : Bool} {V : Value} (hg : o.guard = some (j, want)) (hj : (ops[j]?).bind (·.dst) = some dj) (hb : look K dj = some (.bool b)) (hd : o.dst = some d) (hn : d < n)
    (h : (b == want) = true → OpT P E n o K L (fun v L' => v = V ∧ ∀ w, Sat E L' w → Sat E L w)) (k : WL P E n ops rest ((d, gv (b == want) V) :: K) L Q) : WL P E n ops (o :: rest) K L Q := by
  intro a w hA hS
  refine wpList_step fun Kc hK => ?_
  have hy := yielded_of hA hj hb
  simp only [Region.wanted, hg, hy, boolOf]
  cases hbw : (b == want) with
  | true =>
    rw [if_pos (by simpa using hbw)]
    refine h hbw a w Kc Q hA hS fun v L' w' ⟨hv, hL⟩ hS' => hK _ _ ?_
    rw [hd, hv]
    rw [hbw] at k
    exact k _ _ (hA.put hn V) (hL _ hS')
  | false =>
    rw [if_neg (by simpa using hbw)]
    rw [hbw] at k
    refine hK _ _ ?_
    rw [hd]
    exact k _ _ (hA.put hn undef) hS
/-- The same, the guard itself being there only if c. -/
theorem WL_guard2 {d j dj : Nat} {want b c : Bool} {V : Value} (hg : o.guard = some (j, want)) (hj : (ops[j]?).bind (·.dst) = some dj) (hb : look K dj = some (gv c (.bool b))) (hd : o.dst = some d) (hn : d < n)
    (h : (c && (b == want)) = true → OpT P E n o K L (fun v L' => v = V ∧ ∀ w, Sat E L' w → Sat E L w)) (k : WL P E n ops rest ((d, gv (c && (b == want)) V) :: K) L Q) : WL P E n ops (o :: rest) K L Q := by
  intro a w hA hS
  refine wpList_step fun Kc hK => ?_
  have hy := yielded_of hA hj hb
  simp only [Region.wanted, hg, hy]
  cases hbw : (c && (b == want)) with
  | true =>
    have hc : c = true := by simp at hbw; exact hbw.1
    have hb2 : b = want := by simp at hbw; exact hbw.2
    subst hc; subst hb2
    rw [if_pos (by simp [gv, boolOf])]
    refine h hbw a w Kc Q hA hS fun v L' w' ⟨hv, hL⟩ hS' => hK _ _ ?_
    rw [hd, hv]
    rw [hbw] at k
    exact k _ _ (hA.put hn V) (hL _ hS')
  | false =>
    rw [if_neg (by cases c <;> simp_all [gv, boolOf, undef])]
    rw [hbw] at k
    refine hK _ _ ?_
    rw [hd]
    exact k _ _ (hA.put hn undef) hS
end
end Go.Proofs.YtjiafaiklmbbeaaDoor
