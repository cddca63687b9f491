/- Names: one rune's bytes. -/
import Derived.Test.YtjiafaiklmbbeaaDoorNames2
import Derived.Laws.Cover4
namespace Go.Proofs.YtjiafaiklmbbeaaDoor
open Go.RowKit Go.Lib
set_option linter.unusedVariables false
set_option linter.unusedSimpArgs false
/-- A rune's bytes. -/
def encL (c : Nat) : List UInt8 :=
  if c < 128 then [UInt8.ofNat c]
  else if c < 2048 then [UInt8.ofNat (192 + c / 64), UInt8.ofNat (128 + c % 64)]
  else if c < 65536 then [UInt8.ofNat (224 + c / 4096), UInt8.ofNat (128 + c / 64 % 64), UInt8.ofNat (128 + c % 64)]
  else [UInt8.ofNat (240 + c / 262144), UInt8.ofNat (128 + c / 4096 % 64), UInt8.ofNat (128 + c / 64 % 64), UInt8.ofNat (128 + c % 64)]
def good (c : Nat) : Prop := c < 55296 ∨ (57344 ≤ c ∧ c ≤ 1114111)
theorem encode_eq {c : Nat} (h : good c) : Utf8.encode (c : Int) = strB (encL c) := by
  unfold good at h
  have hv : Utf8.valid (c : Int) = true := by simp [Utf8.valid]; omega
  unfold Utf8.encode encL
  simp only [hv, if_true, Int.toNat_natCast]
  split
  · rfl
  · split
    · rfl
    · split <;> rfl
theorem n8 (a : Nat) (h : a < 256) : (UInt8.ofNat a).toNat = a := by rw [UInt8.toNat_ofNat']; omega
theorem dec_enc {c : Nat} (h : good c) (rest : List UInt8) : decodeL (encL c ++ rest) = (c, (encL c).length) := by
  unfold good at h
  rw [decodeL_N]
  unfold encL
  by_cases h1 : c < 128
  · rw [if_pos h1]
    simp only [List.cons_append, List.nil_append, List.getD_cons_zero, List.length_cons, n8 c (by omega)]
    unfold decodeN
    rw [if_pos h1]
    rfl
  · rw [if_neg h1]
    by_cases h2 : c < 2048
    · rw [if_pos h2]
      simp only [List.cons_append, List.nil_append, List.getD_cons_zero, List.getD_cons_succ, List.length_cons, List.length_nil, n8 _ (show 192 + c / 64 < 256 by omega), n8 _ (show 128 + c % 64 < 256 by omega)]
      unfold decodeN
      rw [if_neg (by omega), if_pos (by omega), if_pos (by omega)]
      congr 1
      omega
    · rw [if_neg h2]
      by_cases h3 : c < 65536
      · rw [if_pos h3]
        simp only [List.cons_append, List.nil_append, List.getD_cons_zero, List.getD_cons_succ, List.length_cons, List.length_nil, n8 _ (show 224 + c / 4096 < 256 by omega), n8 _ (show 128 + c / 64 % 64 < 256 by omega), n8 _ (show 128 + c % 64 < 256 by omega)]
        unfold decodeN
        rw [if_neg (by omega), if_neg (by omega), if_pos (by omega), if_pos (by omega)]
        congr 1
        omega
      · rw [if_neg h3]
        simp only [List.cons_append, List.nil_append, List.getD_cons_zero, List.getD_cons_succ, List.length_cons, List.length_nil, n8 _ (show 240 + c / 262144 < 256 by omega), n8 _ (show 128 + c / 4096 % 64 < 256 by omega), n8 _ (show 128 + c / 64 % 64 < 256 by omega), n8 _ (show 128 + c % 64 < 256 by omega)]
        unfold decodeN
        rw [if_neg (by omega), if_neg (by omega), if_neg (by omega), if_pos (by omega), if_pos (by omega)]
        congr 1
        omega
theorem enc_ne (c : Nat) : encL c ≠ [] := by unfold encL; split; simp; split; simp; split <;> simp
theorem enc_len (c : Nat) : (encL c).length ≤ 4 := by unfold encL; split; simp; split; simp; split <;> simp
theorem chk_enc {c : Nat} (h : good c) (rest : List UInt8) (n : Nat) (bad : Bool) : chk (encL c ++ rest) n bad = chk rest (n + 1) (bad || wrongR c) := by
  have hd := dec_enc h rest
  have hno : noRune (encL c ++ rest) = false := by
    unfold noRune
    rw [hd]
    by_cases hc : c = 65533
    · subst hc; decide
    · simp [hc]
  rw [chk_some (by simp [enc_ne]) hno, hd]
  simp
theorem enc_byte {c : Nat} (h : good c) : ∀ x ∈ encL c, (c < 128 ∧ x = UInt8.ofNat c) ∨ (128 ≤ c ∧ 128 ≤ x.toNat) := by
  unfold good at h
  intro x hx
  unfold encL at hx
  by_cases h1 : c < 128
  · rw [if_pos h1] at hx; simp at hx; exact .inl ⟨h1, hx⟩
  · rw [if_neg h1] at hx
    refine .inr ⟨by omega, ?_⟩
    split at hx
    · simp only [List.mem_cons, List.mem_nil_iff, or_false] at hx; rcases hx with rfl | rfl <;> rw [n8 _ (by omega)] <;> omega
    · split at hx
      · simp only [List.mem_cons, List.mem_nil_iff, or_false] at hx; rcases hx with rfl | rfl | rfl <;> rw [n8 _ (by omega)] <;> omega
      · simp only [List.mem_cons, List.mem_nil_iff, or_false] at hx; rcases hx with rfl | rfl | rfl | rfl <;> rw [n8 _ (by omega)] <;> omega
theorem enc_stroke {c : Nat} (h : good c) (hc : c ≠ 47) : (47 : UInt8) ∉ encL c := by
  intro hm
  rcases enc_byte h _ hm with ⟨h1, h2⟩ | ⟨_, h2⟩
  · have := congrArg UInt8.toNat h2
    rw [n8 c (by omega)] at this
    exact hc this.symm
  · exact absurd h2 (by decide)
theorem bad0_enc {c : Nat} (h : good c) : bad0 (encL c) = decide (c = 46) := by
  by_cases hc : c = 46
  · subst hc; decide
  · rw [decide_eq_false hc]
    simp only [bad0, Bool.or_eq_false_iff, beq_eq_false_iff_ne]
    have key : ∀ l : List UInt8, (∀ x ∈ l, x = 46) → l ≠ [] → encL c ≠ l := by
      intro l hl hne he
      obtain ⟨x, hx⟩ := List.exists_mem_of_ne_nil _ hne
      have h46 := hl x hx
      rw [← he] at hx
      rcases enc_byte h x hx with ⟨h1, h2⟩ | ⟨_, h2⟩
      · have := congrArg UInt8.toNat (h2.symm.trans h46)
        rw [n8 c (by omega)] at this
        exact hc this
      · rw [h46] at h2; exact absurd h2 (by decide)
    exact ⟨⟨enc_ne c, key [46] (by simp) (by simp)⟩, key [46, 46] (by simp) (by simp)⟩
theorem check_enc {c : Nat} (h : good c) : checkN (encL c) = if c = 46 ∨ wrongR c then 10 else 0 := by
  unfold checkN
  have := chk_enc h [] 0 (bad0 (encL c))
  rw [List.append_nil] at this
  rw [this, chk_nil, bad0_enc h]
  unfold finC
  by_cases hc : c = 46
  · rw [if_pos (by simp [hc]), if_pos (.inl hc)]
  · cases hw : wrongR c with
    | true => rw [if_pos (by simp), if_pos (.inr rfl)]
    | false => rw [if_neg (by simp [hc]), if_neg (by omega), if_neg (by simp [hc])]
theorem check_encx {c : Nat} (h : good c) : checkN (encL c ++ [120]) = if wrongR c then 10 else 0 := by
  unfold checkN
  have hb : bad0 (encL c ++ [120]) = false := by
    simp only [bad0, Bool.or_eq_false_iff, beq_eq_false_iff_ne]
    have hm : (120 : UInt8) ∈ encL c ++ [120] := by simp
    refine ⟨⟨by simp, fun he => ?_⟩, fun he => ?_⟩ <;> rw [he] at hm <;> simp at hm
  rw [hb, chk_enc h, chk_x]
  unfold finC
  cases wrongR c <;> simp
theorem split_encx {c : Nat} (h : good c) : (splitN ([47] ++ encL c ++ [120])).2 = if wrongR c then 10 else 0 := by
  have hnp : noPath ([47] ++ encL c ++ [120]) = false := by
    unfold noPath
    simp [List.isPrefixOf, List.isSuffixOf]
  unfold splitN
  rw [if_neg (by simp), if_neg (by rw [hnp]; decide)]
  rw [show ([47] ++ encL c ++ [120] : List UInt8).drop 1 = encL c ++ [120] by simp]
  by_cases hc : c = 47
  · subst hc; decide
  · have hs : (47 : UInt8) ∉ encL c ++ [120] := by
      intro hm
      rcases List.mem_append.1 hm with hm | hm
      · exact enc_stroke h hc hm
      · simp at hm
    rw [splitL_none hs]
    have ha : allN [encL c ++ [120]] = if wrongR c then 10 else 0 := by
      have := check_encx h
      unfold allN
      simp only [List.length_cons, List.length_nil]
      rw [if_neg (by omega), firstBad, this]
      cases wrongR c <;> simp [firstBad]
    rw [ha]
    cases wrongR c <;> simp
/-- Bytes that would be a surrogate. -/
def surL (m : Nat) : List UInt8 := [UInt8.ofNat (224 + 13), UInt8.ofNat (128 + m / 64 % 64), UInt8.ofNat (128 + m % 64)]
theorem check_sur {m : Nat} (h : 55296 ≤ m ∧ m ≤ 57343) : checkN (surL m) = 11 := by
  unfold checkN
  apply chk_none (by simp [surL])
  unfold noRune
  rw [decodeL_N]
  unfold surL
  simp only [List.getD_cons_zero, List.getD_cons_succ, List.length_cons, List.length_nil, n8 _ (show 224 + 13 < 256 by omega), n8 _ (show 128 + m / 64 % 64 < 256 by omega), n8 _ (show 128 + m % 64 < 256 by omega)]
  unfold decodeN
  rw [if_neg (by omega), if_neg (by omega), if_pos (by omega), if_neg (by omega)]
  rfl
section
variable {P : Program} {E : Env} {n : Nat} {K : Slots} {L : Res} {o : Oper}
theorem run_or8 (a r : Nat) (y : UInt8) (hr : r < 256) (h : bits .or .u8 (a : Int) (y.toNat : Int) = (r : Int)) (t : TypeId) (x z : Operand) (w : World) : ((do eqGuard .or t x z (.int .u8 (a : Int)) (bv y); binOp .or t (.int .u8 (a : Int)) (bv y) : Sem Value)).run P w = .ok (bv (UInt8.ofNat r)) w := by
  have := run_orB (P := P) _ _ h t x z w
  rw [show bv (UInt8.ofNat r) = .int .u8 (r : Int) by rw [bv, n8 r hr]]
  exact this
theorem byteN (a : Nat) (h : a < 256) (z : Int) (hz : z = (a : Int)) : ((byte z).toNat : Int) = (a : Int) := by rw [byte_toNat, hz]; omega
theorem run_or224 (z : Int) (hz : z = 13) (t : TypeId) (x y : Operand) (w : World) : ((do eqGuard .or t x y (.int .u8 224) (bv (byte z)); binOp .or t (.int .u8 224) (bv (byte z)) : Sem Value)).run P w = .ok (bv (UInt8.ofNat (224 + 13))) w :=
  run_or8 224 (224 + 13) (byte z) (by omega) (by rw [byteN 13 (by omega) z hz]; exact u8_or224 _ (by omega) (by omega)) t x y w
theorem run_or128 (a : Nat) (ha : a < 64) (z : Int) (hz : z = (a : Int)) (t : TypeId) (x y : Operand) (w : World) : ((do eqGuard .or t x y (.int .u8 128) (bv (byte z)); binOp .or t (.int .u8 128) (bv (byte z)) : Sem Value)).run P w = .ok (bv (UInt8.ofNat (128 + a))) w :=
  run_or8 128 (128 + a) (byte z) (by omega) (by rw [byteN a (by omega) z hz]; exact u8_or128 _ (by omega) (by omega)) t x y w
theorem run_andI63 (z : Int) (h0 : 0 ≤ z) (h1 : z < 4611686018427387904) (t : TypeId) (x y : Operand) (w : World) : ((do eqGuard .and t x y (.int .i64 z) (.int .i64 63); binOp .and t (.int .i64 z) (.int .i64 63) : Sem Value)).run P w = .ok (.int .i64 (z % 64)) w := by
  have p62 : (2 : Int) ^ 62 = 4611686018427387904 := by decide
  have q1 : ∀ n : Int, 0 ≤ n → n < 2 ^ 62 → IntKind.i64.wrap n = n := fun n h0 h1 => IntWalk.i64_in _ (by rw [p62] at h1; omega)
  exact run_and _ _ (bits_mask .i64 62 (by decide) q1 6 (by decide) z h0 (by rw [p62]; exact h1)) t x y w
theorem conv_rune (c : Nat) (h : c < 2147483648) {s d : TypeId} (hs : ∀ w, (underlying s).run P w = .ok (.int .i64) w) (hd : ∀ w, (underlying d).run P w = .ok (.int .i32) w) (w : World) : (convert s d (.int .i64 (c : Int))).run P w = .ok (.int .i32 (c : Int)) w := by
  have := conv_int (P := P) .i64 (c : Int) hs hd w
  rw [this, IntKind.wrap_i32, show ((c : Int) + 2147483648) % 4294967296 - 2147483648 = (c : Int) by omega]
/-- One rune to a string. -/
theorem Pu_convRS {c : Nat} {s d e r : TypeId} {x : Operand} {v : Value} {Pr : HP} (ho : o.op = .convert s d x) (hs : P.underlying s = some (.slice e)) (he : P.underlying e = some (.int .i32)) (hd : P.underlying d = some .string) (hx : evK K x = some v)
    (hr : look L r = some Pr) (hrd : ∀ h, Pr h → rdP 1 v 1 [.int .i32 (c : Int)] h) (hg : good c) : Pure P E n o K L (sV (encL c)) := fun a w hA hS => by
  obtain ⟨h, h1, h2⟩ := hS.read hr
  have hRd := rdP_Rd (hrd h h1) h2 Nat.one_pos
  obtain ⟨_, A, cap, rfl, _, h0, hcell⟩ := hRd
  cases A with
  | none => exact absurd (h0 rfl) (by omega)
  | some ad =>
    have hc := (hcell ad rfl).2
    have := run_convert_runes (P := P) w s d e ad 1 cap [(c : Int)] (by simp) hs he hd (fun j hj => by
      have : j = 0 := by simpa using hj
      subst this
      simpa using hc 0 (.int .i32 (c : Int)) rfl)
    have hb : runesBytes ([(c : Int)].take 1) = strB (encL c) := by
      simp only [runesBytes, List.take_succ_cons, List.take_zero, List.foldl_cons, List.foldl_nil, encode_eq hg]
      exact strB_append [] (encL c)
    rw [hb] at this
    simp only [execOp, ho, hA.eval hx, Sem.run_bind, this]; rfl
end
end Go.Proofs.YtjiafaiklmbbeaaDoor
