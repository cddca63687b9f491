/- Blocks: roots, plain words. -/
import Derived.Test.YtnhidehpacidnaaBlob4
import Derived.Test.YtnhidehpacidnaaCat
namespace Go.Proofs.Ytnhidehpacidnaa
set_option linter.unusedVariables false
set_option linter.unusedSimpArgs false
def nilS : Value := .slice none 0 0
/-- A root's cells. -/
def rootC (pv : Value) (ver : Int) (top : List UInt8) (tv : Value) : List Value := [pv, .int .i64 ver] ++ bs top ++ [tv]
def rootV (pv : Value) (ver : Int) (top : List UInt8) (tv : Value) : Value := .agg (rootC pv ver top tv).toArray
theorem rootC_length {pv : Value} {ver : Int} {top : List UInt8} {tv : Value} (ht : top.length = 32) : (rootC pv ver top tv).length = 35 := by simp [rootC, bs_length, ht]
theorem one_root {pv : Value} {ver : Int} {top : List UInt8} {tv : Value} (hp : pv.oneCell' = true) (hv : tv.oneCell' = true) : ∀ x ∈ rootC pv ver top tv, x.oneCell' = true := by
  intro x hx
  simp only [rootC, List.mem_append, List.mem_cons, List.not_mem_nil, or_false] at hx
  rcases hx with ((rfl | rfl) | h) | rfl
  · exact hp
  · rfl
  · exact bs_one _ x h
  · exact hv
theorem take_rtop {pv : Value} {ver : Int} {top : List UInt8} {tv : Value} (ht : top.length = 32) : ((rootC pv ver top tv).drop 2).take 32 = bs top := by
  show (bs top ++ [tv]).take 32 = bs top
  rw [List.take_append_of_le_length (by rw [bs_length, ht]; omega), List.take_of_length_le (by rw [bs_length, ht]; omega)]
theorem root_tail {pv : Value} {ver : Int} {top : List UInt8} {tv : Value} (ht : top.length = 32) : (rootC pv ver top tv)[34]? = some tv := by
  unfold rootC
  rw [List.getElem?_append_right (by simp [bs_length, ht])]
  simp [bs_length, ht]
theorem root_over {pv : Value} {ver : Int} {z top : List UInt8} {tv : Value} (hz : z.length = 32) (ht : top.length = 32) : over (rootC pv ver z tv) 2 (bs top) = rootC pv ver top tv := by
  have h1 : (bs top).length = 32 := by rw [bs_length, ht]
  have h2 : (bs z).length = 32 := by rw [bs_length, hz]
  simp [over, rootC, h1, h2]
theorem root_set {pv : Value} {ver : Int} {top : List UInt8} {tv tv' : Value} (ht : top.length = 32) : (rootC pv ver top tv).set 34 tv' = rootC pv ver top tv' := by
  have h2 : (bs top).length = 32 := by rw [bs_length, ht]
  unfold rootC
  rw [List.set_append_right _ _ (by simp [h2])]
  simp [h2]
theorem root_copy {pv : Value} {ver : Int} {z b : List UInt8} {tv : Value} (hz : z.length = 32) (hb : 32 ≤ b.length) : over (rootC pv ver z tv) 2 ((bs b).take (min b.length 32)) = rootC pv ver (b.take 32) tv := by
  rw [Nat.min_eq_right hb, ← bs_take]
  exact root_over hz (by simp; omega)
/-- What is wrong with a root. -/
def rootE (pl : List UInt8) (ver : Int) (tl : List UInt8) : Int := if pl.length ≠ 56 ∨ ver < 1 ∨ 2147483647 < ver then 1 else if 5000 < tl.length then 5 else 0
def rootLs (pl : List UInt8) (ver : Int) (top tl : List UInt8) : List (List UInt8) := [[114], pl, numB ver 4, top, numB tl.length 2, tl]
def rootR (pl : List UInt8) (ver : Int) (top tl : List UInt8) : List UInt8 := if rootE pl ver tl = 0 then (rootLs pl ver top tl).flatten else []
theorem rootE_bad {pl : List UInt8} {ver : Int} {tl : List UInt8} (h : (!decide ((pl.length : Int) = 56) || decide (ver < 1) || decide (2147483647 < ver)) = true) : rootE pl ver tl = 1 := by
  unfold rootE
  rw [if_pos]
  simp at h
  omega
theorem rootE_good {pl : List UInt8} {ver : Int} {tl : List UInt8} (h : (!decide ((pl.length : Int) = 56) || decide (ver < 1) || decide (2147483647 < ver)) = false) : rootE pl ver tl = if 5000 < tl.length then 5 else 0 := by
  unfold rootE
  rw [if_neg]
  simp at h
  omega
theorem six {P : Nat → Prop} (h0 : P 0) (h1 : P 1) (h2 : P 2) (h3 : P 3) (h4 : P 4) (h5 : P 5) : ∀ i, i < 6 → P i := by
  intro i hi
  have : i = 0 ∨ i = 1 ∨ i = 2 ∨ i = 3 ∨ i = 4 ∨ i = 5 := by omega
  rcases this with rfl | rfl | rfl | rfl | rfl | rfl <;> assumption
/-- A root, read. -/
def pRootBad (b : List UInt8) : Bool := !decide (at0 b 0 = 114) || decide ((val (b.drop 57) 4 : Int) < 1) || decide ((2147483647 : Int) < (val (b.drop 57) 4 : Int)) || decide ((5000 : Int) < (val (b.drop 93) 2 : Int))
def pRootE (b : List UInt8) : Int := if b.length < 95 then 8 else if pRootBad b then 11 else if b.length < 95 + val (b.drop 93) 2 then 8 else if 95 + val (b.drop 93) 2 < b.length then 9 else 0
structure Rt where
  pl : List UInt8
  ver : Int
  top : List UInt8
  tl : List UInt8
def pRoot (b : List UInt8) : Rt := if pRootE b = 0 then ⟨(b.drop 1).take 56, val (b.drop 57) 4, (b.drop 61).take 32, b.drop 95⟩ else ⟨[], 0, zeroId, []⟩
theorem pRoot_err {b : List UInt8} {e : Int} (h : pRootE b = e) (he : e ≠ 0) : pRoot b = ⟨[], 0, zeroId, []⟩ := by unfold pRoot; rw [if_neg (by rw [h]; exact he)]
theorem pRootE_cut {b : List UInt8} (h : (b.length : Int) < 95) : pRootE b = 8 := by unfold pRootE; rw [if_pos (by omega)]
theorem pRootE_bad {b : List UInt8} (h : 95 ≤ b.length) (hb : pRootBad b = true) : pRootE b = 11 := by unfold pRootE; rw [if_neg (by omega), if_pos hb]
theorem pRootE_later {b : List UInt8} (h : 95 ≤ b.length) (hb : pRootBad b = false) : pRootE b = if b.length < 95 + val (b.drop 93) 2 then 8 else if 95 + val (b.drop 93) 2 < b.length then 9 else 0 := by
  unfold pRootE
  rw [if_neg (by omega), if_neg (by rw [hb]; decide)]
theorem pRootBad_of {b : List UInt8} : (!decide (((at0 b 0).toNat : Int) = 114) || decide ((val (b.drop 57) 4 : Int) < 1) || decide ((2147483647 : Int) < (val (b.drop 57) 4 : Int)) || decide ((5000 : Int) < (val (b.drop 93) 2 : Int))) = pRootBad b := by
  unfold pRootBad
  have : (((at0 b 0).toNat : Int) = 114) ↔ at0 b 0 = 114 := by
    constructor
    · intro h
      apply UInt8.toNat_inj.1
      have : (114 : UInt8).toNat = 114 := rfl
      omega
    · intro h; rw [h]; rfl
  simp only [this]
end Go.Proofs.Ytnhidehpacidnaa
