/- The document's ledger: Open. -/
import Derived.Test.YtfjeoggjnibamaaLedger6
import Derived.Test.YtfjeoggjnibamaaRefDisk2
namespace Go.Proofs.Ytfjeoggjnibamaa
open Go.RowKit
set_option linter.unusedSimpArgs false

def RLgAt (w : World) (p g last : Nat) : Prop := Blk w p 65 #[.pointer (some ⟨g, 0, none⟩), .int .i64 last]
theorem RLgAt.chg {w w' : World} {p g last : Nat} {F : List Nat} (h : RLgAt w p g last) (hc : Chg F w w') (hp : p ∉ F) : RLgAt w' p g last := Blk.chg h hc hp

theorem rec_eq (x y : UInt8) : (x == ~~~ y) = ((y.toNat : Int) == ((255 - x.toNat : Nat) : Int)) := by
  rw [Bool.eq_iff_iff, beq_iff_eq, beq_iff_eq]
  have hx := x.toNat_lt
  have hy := y.toNat_lt
  constructor
  · intro h
    rw [h, not_nat]
    omega
  · intro h
    rw [← UInt8.toNat_inj, not_nat]
    omega

theorem ropen_dead (g : Nat) (v : Value) (s : Dk) (w : World) (h : RkAt w g v s) (hd : s.dead = true) :
    Calls Try.prog 31 #[.pointer (some ⟨g, 0, none⟩)] w fun e w' => e = .returned (.tuple #[.pointer none, .int .i64 17]) ∧ w = w' := by
  have c5 := (rkCells h.1).c5
  rw [hd] at c5
  go_enter Try.func31, Try.ntmps31
  go_wp2
  go_ret2
  exact ⟨rfl, rfl⟩

set_option maxRecDepth 100000 in
set_option maxHeartbeats 2000000 in
theorem ropen_any (g : Nat) (v : Value) (s : Dk) (w : World) (h : RkAt w g v s) (hs : s.ok) (hd : s.dead = false) :
    Calls Try.prog 31 #[.pointer (some ⟨g, 0, none⟩)] w fun e w' => ∃ p, e = .returned (.tuple #[.pointer (some ⟨p, 0, none⟩), .int .i64 0]) ∧ w.heap.size ≤ p ∧ RLgAt w' p g (scan s.b) ∧ Chg [] w w' := by
  have c5 := (rkCells h.1).c5
  rw [hd] at c5
  have hgl := h.1.lt
  have hal : Chg [] w (w.alloc (.cells #[.pointer (some ⟨g, 0, none⟩), .int .i64 0] 65)) := (Chg.refl [] _).alloc _
  have hp0 : RLgAt (w.alloc (.cells #[.pointer (some ⟨g, 0, none⟩), .int .i64 0] 65)) w.heap.size g 0 := Blk.new w 65 #[.pointer (some ⟨g, 0, none⟩), .int .i64 0]
  have hb2 := hs.2.1
  have hb1 := hs.1
  obtain ⟨A, c, hv, hnc, hcm, hA0, _⟩ := own_form h.2
  have hrd := h.2.rd
  subst hv
  go_enter Try.func31, Try.ntmps31
  go_wp2_with fail
  go_loopw [5] (fun i wr => ∃ k : Nat, 8 * k ≤ s.b.length ∧ i = .int .i64 ((8 * k : Nat) : Int) ∧ RLgAt wr w.heap.size g (scanTo s.b k) ∧ Chg [] w wr) (fun i _ => 16777300 - (intOf i).toNat)
  case atStart => exact ⟨0, Nat.zero_le _, rfl, hp0, hal⟩
  case round =>
    clear hp0 hal
    obtain ⟨k, hk, rfl, hlg, hch⟩ := hrel
    have c2 : wr.cell? ⟨g, 2, none⟩ = some (.slice A s.b.length c) := (hch.cell hgl (by simp)).trans (rkCells h.1).c2
    by_cases hlt : 8 * k + 8 ≤ s.b.length
    · have hA : ∃ ad, A = some ad := by
        cases A with
        | none => have := hA0 rfl; omega
        | some ad => exact ⟨ad, rfl⟩
      obtain ⟨ad, rfl⟩ := hA
      have hcell : ∀ j, j < 8 → wr.cell? (ad.add (8 * k + j)) = some (bv (bt (s.b.drop (8 * k)) j)) := by
        intro j hj
        obtain ⟨hl', A', c', hv', hn', h0', hr'⟩ := hrd.old hch
        injection hv' with e1 e2 e3
        subst e1
        refine (hr' ad rfl).2 (8 * k + j) _ ?_
        rw [bs_get, List.getElem?_eq_getElem (by omega), bt_drop]
        simp [bt, List.getElem?_eq_getElem (show 8 * k + j < s.b.length by omega)]
      have HC := Lib.hid hcell; clear hcell
      have hlt' : 8 * (k : Int) + 8 ≤ (s.b.length : Int) := by omega
      go_wp2_with fail
      go_loopw [6, 7, 8] (fun n b i wl => ∃ q : Nat, q ≤ 4 ∧ i = .int .i64 q ∧ n = .int .i64 (val (s.b.drop (8 * k)) q) ∧ b = .bool (isRec (s.b.drop (8 * k)) q) ∧ ∃ m, wl = wr.drewN m) (fun _ _ i _ => 4 - (intOf i).toNat)
      case atStart => exact ⟨0, Nat.zero_le _, rfl, rfl, rfl, 0, rfl⟩
      case round =>
        obtain ⟨q, hq, rfl, rfl, rfl, m, rfl⟩ := hrel
        by_cases hq4 : q < 4
        · have d1 := HC.out q (by omega)
          have hv1 := val_lt (s.b.drop (8 * k)) q
          have ho := or_byte (val (s.b.drop (8 * k)) q) (bt (s.b.drop (8 * k)) q) (Nat.lt_of_lt_of_le hv1 (by have : 256 ^ q ≤ 256 ^ 4 := Nat.pow_le_pow_right (by omega) (by omega); omega))
          have hV : ((val (s.b.drop (8 * k)) q * 256 + (bt (s.b.drop (8 * k)) q).toNat : Nat) : Int) = ((val (s.b.drop (8 * k)) (q + 1) : Nat) : Int) := rfl
          rw [hV] at ho
          simp only [bv] at d1
          cases hrec : isRec (s.b.drop (8 * k)) q with
          | false =>
            have hrec' : isRec (s.b.drop (8 * k)) (q + 1) = false := by rw [isRec_succ, hrec]; rfl
            have HH := Lib.hid hrec'; clear hrec'
            go_wp2
            go_quiet (fail)
            go_wp2
            go_roundw
            case rel => exact ⟨q + 1, by omega, by go_num, rfl, by rw [HH.out], _, rfl⟩
            case measure => simp [intOf]; omega
          | true =>
            have d2 := HC.out (4 + q) (by omega)
            simp only [bv] at d2
            rw [show 8 * k + (4 + q) = 8 * k + 4 + q by omega] at d2
            have d2' := d2
            rw [show ad.add (8 * k + 4 + q) = ⟨ad.block, ad.off + (8 * k + 4 + q), none⟩ from by simp [Addr.add]] at d2'
            have hi1 : IntKind.i64.wrap (8 * (k : Int) + 4) = 8 * (k : Int) + 4 := IntWalk.i64_in _ (by omega)
            have hi2 : IntKind.i64.wrap (8 * (k : Int) + 4 + (q : Int)) = 8 * (k : Int) + 4 + (q : Int) := IntWalk.i64_in _ (by omega)
            have hi3 : IntKind.i64.wrap (8 * (k : Int) + (q : Int)) = 8 * (k : Int) + (q : Int) := IntWalk.i64_in _ (by omega)
            have hi4 : (8 * (k : Int) + 4 + (q : Int)).toNat = 8 * k + 4 + q := by omega
            have hi5 : (8 * (k : Int) + (q : Int)).toNat = 8 * k + q := by omega
            have hi6 : (0 : Int) ≤ 8 * (k : Int) + 4 + (q : Int) := by omega
            have hi7 : (0 : Int) ≤ 8 * (k : Int) + (q : Int) := by omega
            have hi8 : 8 * (k : Int) + 4 + (q : Int) < (s.b.length : Int) := by omega
            have hi9 : 8 * (k : Int) + (q : Int) < (s.b.length : Int) := by omega
            have hx := not_u8 (bt (s.b.drop (8 * k)) q)
            have hE : isRec (s.b.drop (8 * k)) (q + 1) = (((bt (s.b.drop (8 * k)) (4 + q)).toNat : Int) == ((255 - (bt (s.b.drop (8 * k)) q).toNat : Nat) : Int)) := by
              rw [isRec_succ, hrec, Bool.true_and]
              exact rec_eq _ _
            have HE := Lib.hid hE; clear hE
            go_wp2
            go_quiet (fail)
            go_wp2
            go_roundw
            case rel => exact ⟨q + 1, by omega, by go_num, rfl, by rw [HE.out], _, rfl⟩
            case measure => simp [intOf]; omega
        · have hq4' : q = 4 := by omega
          subst hq4'
          cases hrec : isRec (s.b.drop (8 * k)) 4 with
          | false =>
            have hnum : num (s.b.drop (8 * k)) = 0 := by simp [num, hrec]
            have HH := Lib.hid hnum; clear hnum
            go_wp2
            go_roundw
            case rel => exact ⟨k + 1, by omega, by go_num, by simp only [scanTo, HH.out]; rw [Nat.max_eq_left (Nat.zero_le _)]; exact hlg.drewN _, hch.drewN _⟩
            case measure => simp [intOf]; omega
          | true =>
            have hnum : num (s.b.drop (8 * k)) = val (s.b.drop (8 * k)) 4 := by simp [num, hrec]
            have HH := Lib.hid hnum; clear hnum
            have e1 := hlg.cell 1
            simp at e1
            have f1 := hlg.frozen 1
            go_wp2
            go_roundw
            case rel => exact ⟨k + 1, by omega, by go_num, blk_eq (Blk.set_ (w := wr.drewN m) hlg 1 _) (by simp only [scanTo, HH.out]; simp; split <;> omega), (hch.drewN m).setCell (p := ⟨w.heap.size, 1, none⟩) (.inr (Nat.le_refl _)) _⟩
            case measure => simp [intOf]; omega
    · have hk8 : k = s.b.length / 8 := by omega
      have hfin : scanTo s.b k = scan s.b := by rw [hk8]; rfl
      rw [hfin] at hlg
      have hlt' : ¬ 8 * (k : Int) + 8 ≤ (s.b.length : Int) := by omega
      clear hfin hk8
      go_wp2
      go_ret2
      exact ⟨w.heap.size, rfl, Nat.le_refl _, hlg, hch⟩
end Go.Proofs.Ytfjeoggjnibamaa
