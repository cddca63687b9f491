/- The document's ledger: Next. -/
import Derived.Test.YtfjeoggjnibamaaRefLedger
namespace Go.Proofs.Ytfjeoggjnibamaa
open Go.RowKit
set_option linter.unusedSimpArgs false

def hi4 (n : Nat) : List UInt8 := [byteOf n 0, byteOf n 1, byteOf n 2, byteOf n 3]
def lo4 (n : Nat) : List UInt8 := [~~~ byteOf n 0, ~~~ byteOf n 1, ~~~ byteOf n 2, ~~~ byteOf n 3]
theorem rec_halves (n : Nat) : rec n = hi4 n ++ lo4 n := rfl

theorem hi_cells (last : Nat) : #[Value.int .u8 (((last : Int) + 1) / 16777216 % 256), .int .u8 (((last : Int) + 1) / 65536 % 256), .int .u8 (((last : Int) + 1) / 256 % 256), .int .u8 (((last : Int) + 1) % 256)] = (bs (hi4 (last + 1))).toArray := by
  have e0 : ((last : Int) + 1) / 16777216 % 256 = ((byteOf (last + 1) 0).toNat : Int) := by rw [byte_int]; simp
  have e1 : ((last : Int) + 1) / 65536 % 256 = ((byteOf (last + 1) 1).toNat : Int) := by rw [byte_int]; simp
  have e2 : ((last : Int) + 1) / 256 % 256 = ((byteOf (last + 1) 2).toNat : Int) := by rw [byte_int]; simp
  have e3 : ((last : Int) + 1) % 256 = ((byteOf (last + 1) 3).toNat : Int) := by rw [byte_int]; simp
  rw [e0, e1, e2, e3]
  simp only [bs, hi4, List.map_cons, List.map_nil, bv]

theorem not_i64 (n : Nat) (h : n < 4611686018427387904) : bits .xor .i64 (-1) (n : Int) = -1 - (n : Int) := by
  have h1 : BitVec.ofInt 64 (-1) = BitVec.allOnes 64 := by decide
  show IntKind.i64.wrap ((BitVec.ofInt 64 (-1) ^^^ BitVec.ofInt 64 (n : Int)).toNat : Int) = _
  rw [h1, BitVec.allOnes_xor, BitVec.toNat_not, BitVec.ofInt_natCast, BitVec.toNat_ofNat, IntKind.wrap_i64]
  omega
theorem not_byte (n k : Nat) (a : Int) (h : a = -1 - (n : Int)) : a / ((256 ^ (3 - k) : Nat) : Int) % 256 = ((~~~ byteOf n k).toNat : Int) := by
  have hb := byte_int n k
  have hlt := (byteOf n k).toNat_lt
  have hp : (0 : Int) < ((256 ^ (3 - k) : Nat) : Int) := by exact_mod_cast Nat.pow_pos (by omega)
  have hd : a / ((256 ^ (3 - k) : Nat) : Int) = -1 - (n : Int) / ((256 ^ (3 - k) : Nat) : Int) := by
    subst h
    generalize ((256 ^ (3 - k) : Nat) : Int) = P at *
    have e1 := Int.emod_add_mul_ediv (n : Int) P
    have e2 := Int.emod_nonneg (n : Int) (b := P) (by omega)
    have e3 := Int.emod_lt_of_pos (n : Int) hp
    have e4 : (-1 - (n : Int)) = (P - 1 - (n : Int) % P) + P * (-1 - (n : Int) / P) := by
      rw [Int.mul_sub]
      omega
    rw [e4, Int.add_mul_ediv_left _ _ (by omega), Int.ediv_eq_zero_of_lt (by omega) (by omega)]
    omega
  rw [hd, not_nat]
  simp at hlt
  omega
theorem lo_cells (last : Nat) (h : last < 4294967295) : #[Value.int .u8 (bits .xor .i64 (-1) ((last : Int) + 1) / 16777216 % 256), .int .u8 (bits .xor .i64 (-1) ((last : Int) + 1) / 65536 % 256), .int .u8 (bits .xor .i64 (-1) ((last : Int) + 1) / 256 % 256), .int .u8 (bits .xor .i64 (-1) ((last : Int) + 1) % 256)] = (bs (lo4 (last + 1))).toArray := by
  have hx := not_i64 (last + 1) (by omega)
  have hc : (((last + 1 : Nat)) : Int) = (last : Int) + 1 := by omega
  rw [hc] at hx
  have e0 := not_byte (last + 1) 0 (bits .xor .i64 (-1) ((last : Int) + 1)) (by rw [hx]; omega)
  have e1 := not_byte (last + 1) 1 (bits .xor .i64 (-1) ((last : Int) + 1)) (by rw [hx]; omega)
  have e2 := not_byte (last + 1) 2 (bits .xor .i64 (-1) ((last : Int) + 1)) (by rw [hx]; omega)
  have e3 := not_byte (last + 1) 3 (bits .xor .i64 (-1) ((last : Int) + 1)) (by rw [hx]; omega)
  simp only [bs, lo4, List.map_cons, List.map_nil, bv, ← e0, ← e1, ← e2, ← e3]
  simp

theorem grow_step {w w1 wA w5 : World} {B B5 : Option Addr} {q q5 cb c5 : Nat} (h1 : Chg [] w w1) (hA : Chg [] w1 wA) (h5 : Chg (Value.slice B q cb).ownBlock.toList wA w5) (hn : NewV w (.slice B q cb)) (hat : (Value.slice B5 q5 c5).ownBlock = (Value.slice B q cb).ownBlock ∨ (Value.slice B5 q5 c5).ownBlock = some wA.heap.size) :
    Chg [] w w5 ∧ NewV w (.slice B5 q5 c5) := by
  refine ⟨(h1.trans hA (by simp)).trans h5 (fun x hx => .inr (hn x (by simpa using hx))), fun k hk => ?_⟩
  rcases hat with h | h
  · exact hn k (by rw [← h]; exact hk)
  · rw [hk] at h
    injection h with h
    have := h1.size
    have := hA.size
    omega

set_option maxRecDepth 100000 in
set_option maxHeartbeats 2000000 in
theorem rnext_any (p g last : Nat) (v : Value) (s : Dk) (w : World) (hl : RLgAt w p g last) (hd : RkAt w g v s) (hs : s.ok) (hops : s.ops ≤ 90000) :
    Calls Try.prog 32 #[.pointer (some ⟨p, 0, none⟩)] w fun e w' => ∃ v', e = .returned (.tuple #[answer (nextD s last).2.1 (nextD s last).2.2, .int .i64 (nextD s last).2.2]) ∧ RLgAt w' p g (nextD s last).2.1 ∧ RkAt w' g v' (nextD s last).1 ∧ Chg [p, g] w w' ∧ (v' = v ∨ NewV w v') := by
  have c0 := hl.cell 0
  have c1 := hl.cell 1
  simp at c0 c1
  have hpg : p ≠ g := hl.ne_ hd.1 (by decide)
  have hpv : ∀ k, v.ownBlock = some k → k ≠ p := own_ne hd.2 hl (by decide)
  have hpl := hl.lt
  have hgl := hd.1.lt
  have hm := maxLen_eq
  by_cases hfull : 4294967295 ≤ last
  · have hfin : nextD s last = (s, last, 16) := by unfold nextD; rw [if_pos hfull]
    rw [hfin]
    have hf1 : (4294967295 : Int) ≤ (last : Int) := by omega
    clear hfull
    go_enter Try.func32, Try.ntmps32
    go_wp2
    go_ret2
    exact ⟨v, rfl, hl, hd, Chg.refl _ _, .inl rfl⟩
  · have hf1 : ¬ (4294967295 : Int) ≤ (last : Int) := by omega
    have hlac := lacks_int s.b
    have hlt := lacks_lt s.b
    have hb2 := hs.2.1
    have hb1 := hs.1
    have hwr := IntWalk.i64_in ((last : Int) + 1) (by omega)
    obtain ⟨i0, hi, hz0, hz1, hz2⟩ := info_parts byte_info
    obtain ⟨A, c, hv, hnc, hcm, hA0, _⟩ := own_form hd.2
    have C2 := (rkCells hd.1).c2
    rw [hv] at C2
    go_enter Try.func32, Try.ntmps32
    have HFull := Lib.hid hfull
    go_wp2_with fail
    clear hf1 hfull hm
    go_loopw [5] (fun b wl => ∃ (q : Nat) (B : Option Addr) (cb : Nat), q ≤ lacks s.b ∧ b = .slice B q cb ∧ wl.ownsRow 0 5 1 (.slice B q cb) q (bs (List.replicate q 0)) ∧ Chg [] w wl ∧ NewV w (.slice B q cb)) (fun b _ => match b with | .slice _ n _ => 8 - n | _ => 0)
    case atStart => exact ⟨0, none, 0, Nat.zero_le _, rfl, World.ownsRow_nil _ _ _ _, Chg.refl _ _, by simp [NewV, Value.ownBlock]⟩
    case round =>
      obtain ⟨q, B, cb, hq, rfl, hob, hch, hnb⟩ := hrel
      have e0 : wr.cell? ⟨p, 0, none⟩ = some (.pointer (some ⟨g, 0, none⟩)) := (hch.cell hpl (by simp)).trans c0
      have e2 : wr.cell? ⟨g, 2, none⟩ = some (.slice A s.b.length c) := (hch.cell hgl (by simp)).trans C2
      by_cases hql : q < lacks s.b
      · have hne : (((s.b.length : Int) + (q : Int)) % 8 == 0) = false := by unfold lacks at hql; simp; omega
        have hal : Chg [] wr (wr.alloc (.cells #[.int .u8 0] 5)) := (Chg.refl [] _).alloc _
        have hobA : (wr.alloc (.cells #[.int .u8 0] 5)).ownsRow 0 5 1 (.slice B q cb) q (bs (List.replicate q 0)) := own_chg hob hal (by simp)
        go_wp2_with (at_builtin; refine wpList_append_rd rfl (.tmp 32) (.tmp 33) 30 rfl 5 i0 (.int .u8 0) 1 1 Try.underlying30 hi hz0 hz1 hz2 rfl (by omega) (.slice B q cb) q (bs (List.replicate q 0)) rfl hobA (.slice (some ⟨wr.heap.size, 0, none⟩) 1 1) 1 (bs [0]) rfl (RdB.mark wr 5 _ (0, 0) [0] 1 rfl rfl) (bs_one _) (by unfold maxLen; omega) (by omega) ?_; intro B5 c5 w5 hown5 hc5 hat5)
        go_roundw
        case rel =>
          have hG := grow_step hch hal hc5 hnb hat5
          refine ⟨q + 1, B5, c5, by omega, rfl, ?_, hG.1, hG.2⟩
          rw [← bs_append, ← List.replicate_succ'] at hown5
          exact hown5
        case measure => simp only []; omega
      · have hq' : q = lacks s.b := by omega
        subst hq'
        have hne : (((s.b.length : Int) + (lacks s.b : Int)) % 8 == 0) = true := by unfold lacks; simp; omega
        go_wp2_with fail
        refine wp_loop_rounds 3 ?_
        rw [rounds_succ]
        have hal1 : Chg [] wr (wr.alloc (.cells (bs (hi4 (last + 1))).toArray 5)) := (Chg.refl [] _).alloc _
        have hob1 : (wr.alloc (.cells (bs (hi4 (last + 1))).toArray 5)).ownsRow 0 5 1 (.slice B (lacks s.b) cb) (lacks s.b) (bs (List.replicate (lacks s.b) 0)) := own_chg hob hal1 (by simp)
        rw [← hi_cells] at hob1 hal1
        have hrd1 := RdB.mark wr 5 _ (0, 0) (hi4 (last + 1)) 4 (hi_cells last) rfl
        go_wp2_with (at_builtin; refine wpList_append_rd rfl (.tmp 44) (.tmp 56) 30 rfl 5 i0 (.int .u8 0) 1 1 Try.underlying30 hi hz0 hz1 hz2 rfl (by omega) (.slice B (lacks s.b) cb) (lacks s.b) (bs (List.replicate (lacks s.b) 0)) rfl hob1 (.slice (some ⟨wr.heap.size, 0, none⟩) 4 4) 4 (bs (hi4 (last + 1))) rfl hrd1 (bs_one _) (by unfold maxLen; omega) (by omega) ?_; intro B5 c5 w5 hown5 hc5 hat5)
        rw [← bs_append] at hown5
        obtain ⟨hc5', hn5⟩ := grow_step hch hal1 hc5 hnb hat5
        have hal2 : Chg [] w5 (w5.alloc (.cells (bs (lo4 (last + 1))).toArray 5)) := (Chg.refl [] _).alloc _
        have hob2 : (w5.alloc (.cells (bs (lo4 (last + 1))).toArray 5)).ownsRow 0 5 1 (.slice B5 (lacks s.b + 4) c5) (lacks s.b + 4) (bs (List.replicate (lacks s.b) 0 ++ hi4 (last + 1))) := own_chg hown5 hal2 (by simp)
        have hLC := lo_cells last (by have := HFull.out; omega)
        rw [← hLC] at hob2 hal2
        have hrd2 := RdB.mark w5 5 _ (0, 0) (lo4 (last + 1)) 4 hLC rfl
        clear hLC
        rw [rounds_succ]
        go_wp2_with (at_builtin; refine wpList_append_rd rfl (.tmp 44) (.tmp 56) 30 rfl 5 i0 (.int .u8 0) 1 1 Try.underlying30 hi hz0 hz1 hz2 rfl (by omega) (.slice B5 (lacks s.b + 4) c5) (lacks s.b + 4) (bs (List.replicate (lacks s.b) 0 ++ hi4 (last + 1))) rfl hob2 (.slice (some ⟨w5.heap.size, 0, none⟩) 4 4) 4 (bs (lo4 (last + 1))) rfl hrd2 (bs_one _) (by unfold maxLen; omega) (by omega) ?_; intro B6 c6 w6 hown6 hc6 hat6; obtain ⟨hc6', hn6⟩ := grow_step hc5' hal2 hc6 hn5 hat6; have e0 := (hc6'.cell (p := ⟨p, 0, none⟩) hpl (by simp)).trans c0; rw [← bs_append] at hown6)
        rw [rounds_succ]
        have hr6 : RdB w6 (.slice B6 (lacks s.b + 4 + 4) c6) (line s.b (last + 1)) := by
          have h : OwnB w6 5 (.slice B6 (lacks s.b + 4 + 4) c6) (line s.b (last + 1)) := by
            unfold OwnB
            rw [line_length]
            unfold line
            rw [rec_halves, ← List.append_assoc]
            exact hown6
          exact h.rd
        have hl6 := hl.chg hc6' (by simp)
        have hd6 := hd.chg hc6' (by simp) (by simp)
        clear hown6 hown5 hob hob1 hob2 hrd1 hrd2 hal1 hal2 hch e0 e2
        have e0 := hl6.cell 0
        simp at e0
        go_wp2_with fail
        refine (rappend_any g v _ (line s.b (last + 1)) s _ hd6 hs hr6 (fun _ kk hk => by have := hn6 kk hk; omega) (by rw [line_length]; omega)).mono ?_
        rintro e w7 ⟨v7, rfl, hd7, hc7, hv7⟩
        have hl7 := hl6.chg hc7 (by simpa using hpg)
        have hC7 : Chg [g] w w7 := (hc6'.mono (by simp)).trans hc7 (fun x hx => .inl hx)
        have hv7' : v7 = v ∨ NewV w v7 := hv7.imp id (fun h k hk => Nat.le_trans hc6'.size (h k hk))
        by_cases he : (s.append (line s.b (last + 1))).2 = 0
        · have hkp := (Dk.append_keeps hs hops (by omega) (line s.b (last + 1))).1
          rw [he]
          have e0 := hl7.cell 0
          simp at e0
          go_wp2_with fail
          refine (rsync_any g v7 _ _ hd7 hkp).mono ?_
          rintro e w8 ⟨he8, hd8, hc8⟩
          have hl8 := hl7.chg hc8 (by simpa using hpg)
          by_cases hy : (s.append (line s.b (last + 1))).1.sync.2 = 0
          · have hfin := nextD_good HFull.out he hy
            rw [hy] at he8
            subst he8
            have f1 := hl8.frozen 1
            have e1 := hl8.cell 1
            simp at e1
            go_wp2
            go_ret2
            rw [hfin]
            exact ⟨v7, by simp [answer], blk_eq (Blk.set_ hl8 1 _) (by simp), hd8.chg (F := [p]) ((Chg.refl _ _).setCell (p := ⟨p, 1, none⟩) (.inl (by simp)) _) (by simpa using hpg.symm) (fun k hk => by simpa using own_ne hd8.2 hl8 (by decide) k hk), ((hC7.trans hc8 (fun x hx => .inl hx)).mono (by simp)).setCell (p := ⟨p, 1, none⟩) (.inl (by simp)) _, hv7'⟩
          · have hfin := nextD_sync HFull.out he hy
            subst he8
            generalize (s.append (line s.b (last + 1))).1.sync.2 = e7 at *
            go_wp2
            go_ret2
            rw [hfin]
            exact ⟨v7, by simp [answer, hy], hl8, hd8, (hC7.trans hc8 (fun x hx => .inl hx)).mono (by simp), hv7'⟩
        · have hfin := nextD_append HFull.out he
          generalize (s.append (line s.b (last + 1))).2 = e6 at *
          go_wp2
          go_ret2
          rw [hfin]
          exact ⟨v7, by simp [answer, he], hl7, hd7, hC7.mono (by simp), hv7'⟩
end Go.Proofs.Ytfjeoggjnibamaa
