/- The ledger's inner function that writes a record. -/
import Derived.Test.YtfjeoggjnibamaaLedger1
namespace Go.Proofs.Ytfjeoggjnibamaa
open Go.RowKit

theorem byte_int (n k : Nat) : ((byteOf n k).toNat : Int) = (n : Int) / ((256 ^ (3 - k) : Nat) : Int) % 256 := by
  rw [byteOf, UInt8.toNat_ofNat']
  simp
theorem xor_byte (x : UInt8) : bits .xor .u8 IntKind.u8.max (x.toNat : Int) = ((~~~ x).toNat : Int) := by
  rw [not_nat]
  exact not_u8 x
theorem rec_cells (n : Nat) : #[Value.int .u8 ((n : Int) / 16777216 % 256), .int .u8 ((n : Int) / 65536 % 256), .int .u8 ((n : Int) / 256 % 256), .int .u8 ((n : Int) % 256),
    .int .u8 (bits .xor .u8 IntKind.u8.max ((n : Int) / 16777216 % 256)), .int .u8 (bits .xor .u8 IntKind.u8.max ((n : Int) / 65536 % 256)), .int .u8 (bits .xor .u8 IntKind.u8.max ((n : Int) / 256 % 256)), .int .u8 (bits .xor .u8 IntKind.u8.max ((n : Int) % 256))] = (bs (rec n)).toArray := by
  have e0 : (n : Int) / 16777216 % 256 = ((byteOf n 0).toNat : Int) := by rw [byte_int]; rfl
  have e1 : (n : Int) / 65536 % 256 = ((byteOf n 1).toNat : Int) := by rw [byte_int]; rfl
  have e2 : (n : Int) / 256 % 256 = ((byteOf n 2).toNat : Int) := by rw [byte_int]; rfl
  have e3 : (n : Int) % 256 = ((byteOf n 3).toNat : Int) := by rw [byte_int]; simp
  rw [e0, e1, e2, e3]
  simp only [xor_byte, bs, rec, List.map_cons, List.map_nil, bv]

set_option maxRecDepth 100000 in
set_option maxHeartbeats 1600000 in
theorem record_any (n : Int) (w : World) (h0 : 0 ≤ n) :
    Calls Try.prog 37 #[.int .i64 n] w fun e w' => ∃ v', e = .returned v' ∧ OwnB w' 5 v' (rec n.toNat) ∧ Chg [] w w' ∧ NewV w v' := by
  obtain ⟨n, rfl⟩ := Int.eq_ofNat_of_zero_le h0
  obtain ⟨i0, hi, hz0, hz1, hz2⟩ := info_parts byte_info
  rw [Int.toNat_natCast]
  clear h0
  have hr1 := RdB.mark w 76 _ (0, 0) (rec n) 8 (rec_cells n) rfl
  go_enter Try.func37, Try.ntmps37
  go_wp2_with fail
  refine wp_loop_rounds 5 ?_
  rw [rounds_succ]
  go_wp2_with fail
  rw [rounds_succ]
  go_wp2_with fail
  rw [rounds_succ]
  go_wp2_with fail
  rw [rounds_succ]
  go_wp2_with fail
  rw [rounds_succ]
  go_wp2_with (first
    | (at_make; refine wpList_make_rd rfl (.const (.int .i64 8)) (.const (.int .i64 8)) 30 rfl 5 i0 (.int .u8 0) Try.underlying30 hi hz0 hz1 rfl .i64 .i64 8 8 8 rfl rfl rfl rfl (by rw [hz2]; omega) (by unfold maxLen; omega) ?_; intro w2 hown2 hc2; simp only [World.size_alloc] at hown2; have hr2 := RdB.old hr1 hc2)
    | ((with_reducible show wpList _ _ _ (⟨some 28, _, _, _, _, _⟩ :: _) _ _); refine wpList_copy_rd rfl (.tmp 26) (.tmp 27) 30 30 rfl 5 Try.underlying30 (by kernel_rfl) (.slice (some ⟨w.heap.size + 1, 0, none⟩) 8 8) (.slice (some ⟨w.heap.size, 0, none⟩) 8 8) rfl rfl 8 8 _ (bs (rec n)) hown2 hr2 (bs_one _) ?_; intro w3 hown3 hc3))
  go_ret
  have hl : (rec n).length = 8 := rfl
  have hown : OwnB w3 5 (.slice (some ⟨w.heap.size + 1, 0, none⟩) 8 8) (rec n) := by
    unfold OwnB
    rw [hl]
    have h := hown3
    rw [Nat.min_self, List.take_of_length_le (by simp [bs_length, hl])] at h
    simpa using h
  refine ⟨.slice (some ⟨w.heap.size + 1, 0, none⟩) 8 8, rfl, hown, ((((Chg.refl [] w).alloc _).trans hc2 (by simp)).trans hc3 (by simp [Value.ownBlock])), fun k hk => ?_⟩
  simp [Value.ownBlock] at hk
  omega
end Go.Proofs.Ytfjeoggjnibamaa
