/- Caches: the law of bounds. -/
import Derived.Test.YtamhhkjddmjanaaCacheD
import Derived.Test.YtamhhkjddmjanaaCache2
import Derived.Test.YtamhhkjddmjanaaOpen2
namespace Go.Proofs.Ytamhhkjddmjanaa
open Go.RowKit
set_option linter.unusedVariables false
set_option linter.unusedSimpArgs false


section
open Go.Deep Go.RowKit Go.ChangeShapes Go.WideShapes
variable {H : Type} {enc : TypeId × Value → H} {w : World} {base b0 : Nat} {spare : Nat → Bool} {held : Bool} {r : Reach} {v : Value} {d : DataW H} {ps : List MemPlace}
theorem tr_call {cs : List Value} (hc : Tr enc Try.prog w base spare held 30 cs) : ∃ (p : Bool) (k s : Int), cs = [.bool p, .int .i64 k, .int .i64 s] := by
  obtain ⟨hl, hf⟩ := hc.struct Try.underlying30
  rw [show (Try.prog).cellsOf 30 = 3 by kernel_rfl] at hl
  obtain ⟨p, hp⟩ := (hf 0 _ rfl).bool Try.underlying4
  obtain ⟨k, hk, _, _⟩ := (hf 1 _ rfl).int Try.underlying3
  obtain ⟨s, hs, _, _⟩ := (hf 2 _ rfl).int Try.underlying3
  replace hp : (cs.drop 0).take ((Try.prog).cellsOf 4) = [.bool p] := hp
  replace hk : (cs.drop 1).take ((Try.prog).cellsOf 3) = [.int .i64 k] := hk
  replace hs : (cs.drop 2).take ((Try.prog).cellsOf 3) = [.int .i64 s] := hs
  rw [show (Try.prog).cellsOf 3 = 1 by kernel_rfl] at hk hs
  rw [show (Try.prog).cellsOf 4 = 1 by kernel_rfl] at hp
  refine ⟨p, k, s, ?_⟩
  match cs, hl with
  | [a, b, c], hl =>
    simp at hp hk hs
    rw [hp, hk, hs]
theorem rdCalls_of {fuel : Nat} {x : DataW H × List MemPlace} (h : DataW.trod enc Try.prog w base spare held fuel 22 [v] = some x) :
    ∃ l : List (Bool × Int × Int), Rd w 3 v l.length (callsC l) ∧ l.length ≤ maxLen := by
  obtain ⟨rs, h1, h2, h3⟩ := rowsT_of Try.underlying22 (show (Try.prog).cellsOf 30 = 3 by kernel_rfl) (by decide) h
  obtain ⟨l, hl⟩ : ∃ l : List (Bool × Int × Int), rs = l.map fun c => [Value.bool c.1, .int .i64 c.2.1, .int .i64 c.2.2] := by
    clear h1 h2 h
    induction rs with
    | nil => exact ⟨[], rfl⟩
    | cons r rs ih =>
      obtain ⟨l, rfl⟩ := ih fun r hr => h3 r (by simp [hr])
      obtain ⟨p, k, s, rfl⟩ := tr_call (h3 r (by simp)).2
      exact ⟨(p, k, s) :: l, rfl⟩
  subst hl
  rw [List.length_map] at h1 h2
  exact ⟨l, h1, h2⟩
end
theorem cacheBounds_law (Wo : World) (room0 : Int) (vc : Value) (calls : List (Bool × Int × Int)) (hrc : Rd Wo 3 vc calls.length (callsC calls)) :
    CallsS Try.prog 3 #[.int .i64 room0, vc] (orig Wo) [] (fun v Ps => v = .bool true) := by
  refine callsS_enter Try.func3 rfl Try.ntmps3 (by simp) (fun E => ?_)
  refine W_seq ?_
  refine W.pre (K' := [(0, _), (1, _)]) (L' := [(0, _)]) ?_ ⟨rfl, ⟨rfl, trivial⟩⟩ ⟨rfl, trivial⟩
  refine W_regL (WL_pure rfl rfl (by decide) (Pu_assign rfl rfl) (WL_nil (X_then ?_)))
  refine W_seq ?_
  refine W_seq ?_
  refine W.pre (K' := [(0, _), (1, _), (4, _)]) (L' := [(0, _)]) ?_ ⟨rfl, ⟨rfl, ⟨rfl, trivial⟩⟩⟩ ⟨rfl, trivial⟩
  refine W_regL (WL_cons rfl rfl (by decide) (OpT_call 200 [0] [] rfl Try.call8 rfl rfl rfl (by decide) (by decide) (known_spec _) (fun v11 Ps11 hR11 => ?_)))
  obtain ⟨rfl, rfl⟩ := hR11
  refine (WL_pure rfl rfl (by decide) (Pu_un rfl rfl (run_not _)) (WL_nil (X_then ?_)))
  refine W_false rfl (rfl) ?_
  refine W_skip (X_then ?_)
  refine W_seq ?_
  refine W.pre (K' := [(0, _), (1, _), (4, _), (12, _)]) (L' := [(0, _)]) ?_ ⟨rfl, ⟨rfl, ⟨rfl, ⟨rfl, trivial⟩⟩⟩⟩ ⟨rfl, trivial⟩
  refine W_regL (WL_pure rfl rfl (by decide) (Pu_move rfl rfl) (WL_cons rfl rfl (by decide) (OpT_call 300 [0] [] rfl Try.call9 rfl rfl rfl (by decide) (by decide) (within_spec room0 300 (by omega) (by omega) _) (fun v14 Ps14 hR14 => ?_))))
  obtain ⟨rfl, rfl⟩ := hR14
  obtain ⟨room, hroom, hroom2⟩ : ∃ n : Nat, room0 % 300 = (n : Int) ∧ n < 300 := ⟨(room0 % 300).toNat, by omega, by omega⟩
  rw [hroom]
  refine (WL_pure rfl rfl (by decide) (Pu_assign rfl rfl) (WL_nil (X_then ?_)))
  refine W_seq ?_
  refine W.pre (K' := [(0, _), (1, _), (4, _), (12, _)]) (L' := [(0, _)]) ?_ ⟨rfl, ⟨rfl, ⟨rfl, ⟨rfl, trivial⟩⟩⟩⟩ ⟨rfl, trivial⟩
  refine W_regL (WL_pure rfl rfl (by decide) (Pu_move rfl rfl) (WL_cons rfl rfl (by decide) (OpT_call 400 [0] [] rfl Try.call10 rfl rfl rfl (by decide) (by decide) (new_good room (by omega) _) (fun v17 Ps17 hR17 => ?_))))
  obtain ⟨gc, rfl, rfl⟩ := hR17
  refine (WL_pure rfl rfl (by decide) (Pu_move rfl rfl) (WL_pure rfl rfl (by decide) (Pu_extract rfl rfl rfl) (WL_pure rfl rfl (by decide) (Pu_extract rfl rfl rfl) (WL_pure rfl rfl (by decide) (Pu_assign rfl rfl) (WL_pure rfl rfl (by decide) (Pu_assign rfl rfl) (WL_nil (X_then ?_)))))))
  refine W_seq ?_
  refine W_seq ?_
  refine W.pre (K' := [(0, _), (1, _), (4, _), (5, _), (12, _)]) (L' := [(0, _), (400, _)]) ?_ ⟨rfl, ⟨rfl, ⟨rfl, ⟨rfl, ⟨rfl, trivial⟩⟩⟩⟩⟩ ⟨rfl, ⟨rfl, trivial⟩⟩
  refine W_regL (WL_pure rfl rfl (by decide) (Pu_assign rfl rfl) (WL_nil (X_then ?_)))
  refine W_block ?_
  refine W_loop (α := Nat × Ents) (fun q => [(0, .int .i64 (room : Int)), (1, vc), (5, .pointer (some ⟨gc, 0, none⟩)), (7, .int .i64 (q.1 : Int))]) (fun q => [(0, orig Wo), (400, cacheP gc room q.2)]) (fun q => True) (fun q => 60 - q.1) ((0, [])) trivial ⟨rfl, ⟨rfl, ⟨rfl, ⟨rfl, trivial⟩⟩⟩⟩ ⟨rfl, ⟨rfl, trivial⟩⟩ (fun x hx => ?_)
  refine W_seq ?_
  refine W_seq ?_
  refine W.pre (K' := [(0, _), (1, _), (5, _), (7, _)]) (L' := [(0, _), (400, _)]) ?_ ⟨rfl, ⟨rfl, ⟨rfl, ⟨rfl, trivial⟩⟩⟩⟩ ⟨rfl, ⟨rfl, trivial⟩⟩
  refine W_regL (WL_pure rfl rfl (by decide) (Pu_move rfl rfl) (WL_pure rfl rfl (by decide) (Pu_move rfl rfl) (WL_pure rfl rfl (by decide) (Pu_len (r := 0) rfl Try.runUnderlying22 rfl rfl (fun h hp => Rd.orig hrc h hp)) (WL_pure rfl rfl (by decide) (Pu_bin rfl rfl rfl (run_lss _ _ _ _ _ _)) (WL_pure rfl rfl (by decide) (Pu_move rfl rfl) (WL_guardP rfl rfl rfl rfl (by decide) (fun hb => (Pu_move rfl rfl)) (WL_guardP rfl rfl rfl rfl (by decide) (fun hb => (Pu_bin rfl (ev_gv rfl hb) rfl (run_lss _ _ _ _ _ _))) (WL_pure rfl rfl (by decide) (Pu_and rfl rfl rfl) (WL_nil (X_then ?_))))))))))
  refine W_cond rfl (fun hc27 => ?_) (fun hc27 => ?_)
  ·
    have hi : x.1 < calls.length ∧ x.1 < 60 := by simp at hc27; omega
    obtain ⟨hi1, hi2⟩ := hi
    obtain ⟨ca0, ca1, ca2⟩ := calls_at hi1
    refine W_skip (X_then ?_)
    refine W_seq ?_
    refine W_block ?_
    refine W_seq ?_
    refine W.pre (K' := [(0, _), (1, _), (5, _), (7, _), (27, _)]) (L' := [(0, _), (400, _)]) ?_ ⟨rfl, ⟨rfl, ⟨rfl, ⟨rfl, ⟨rfl, trivial⟩⟩⟩⟩⟩ ⟨rfl, ⟨rfl, trivial⟩⟩
    refine W_regL (WL_pure rfl rfl (by decide) (Pu_move rfl rfl) (WL_pure rfl rfl (by decide) (Pu_move rfl rfl) (WL_pure rfl rfl (by decide) (Pu_idxS (r := 0) rfl Try.runUnderlying22 Try.sizeOf30 rfl rfl rfl (fun h hp => Rd.orig hrc h hp) (by omega)) (WL_pure rfl rfl (by decide) (Pu_fieldAddrE (off := 2) rfl rfl (by kernel_rfl)) (WL_pure rfl rfl (by decide) (Pu_loadS (r := 0) rfl Try.isAgg3 rfl rfl (fun h hp => Rd.orig hrc h hp) ca2) (WL_cons rfl rfl (by decide) (OpT_call 500 [0, 400] [] rfl Try.call9 rfl rfl rfl (by decide) (by decide) (within_spec (callAt calls x.1).2.2 400 (by omega) (by omega) _) (fun v35 Ps35 hR35 => ?_))))))))
    obtain ⟨rfl, rfl⟩ := hR35
    obtain ⟨n, hn, hn2⟩ : ∃ n : Nat, (callAt calls x.1).2.2 % 400 = (n : Int) ∧ n < 400 := ⟨((callAt calls x.1).2.2 % 400).toNat, by omega, by omega⟩
    rw [hn]
    refine (WL_pure rfl rfl (by decide) (Pu_assign rfl rfl) (WL_nil (X_then ?_)))
    refine W_seq ?_
    refine W.pre (K' := [(0, _), (1, _), (5, _), (7, _), (8, _), (27, _)]) (L' := [(0, _), (400, _)]) ?_ ⟨rfl, ⟨rfl, ⟨rfl, ⟨rfl, ⟨rfl, ⟨rfl, trivial⟩⟩⟩⟩⟩⟩ ⟨rfl, ⟨rfl, trivial⟩⟩
    refine W_draw (N := 11) (by kernel_rfl) rfl [(0, _)] ⟨rfl, trivial⟩ ?_
    refine (AH_take 0 rfl (by kernel_rfl) (by kernel_rfl) (by kernel_rfl) rfl rfl (by decide) (Pu_move rfl rfl) (AH_take 1 rfl (by kernel_rfl) (by kernel_rfl) (by kernel_rfl) rfl rfl (by decide) (Pu_move rfl rfl) (AH_take 2 rfl (by kernel_rfl) (by kernel_rfl) (by kernel_rfl) rfl rfl (by decide) (Pu_move rfl rfl) (AH_take 3 rfl (by kernel_rfl) (by kernel_rfl) (by kernel_rfl) rfl rfl (by decide) (Pu_idxS (r := 0) rfl Try.runUnderlying22 Try.sizeOf30 rfl rfl rfl (fun h hp => Rd.orig hrc h hp) (by omega)) (AH_take 4 rfl (by kernel_rfl) (by kernel_rfl) (by kernel_rfl) rfl rfl (by decide) (Pu_fieldAddrE (off := 1) rfl rfl (by kernel_rfl)) (AH_take 5 rfl (by kernel_rfl) (by kernel_rfl) (by kernel_rfl) rfl rfl (by decide) (Pu_loadS (r := 0) rfl Try.isAgg3 rfl rfl (fun h hp => Rd.orig hrc h hp) ca1) (AH_take 7 rfl (by kernel_rfl) (by kernel_rfl) (by kernel_rfl) rfl rfl (by decide) (Pu_move rfl rfl) (AH_ready [6, 8] (by kernel_rfl) (by decide) ?_))))))))
    refine AHs_cons rfl rfl rfl (by decide) (OpT_call 600 [0, 400] [] rfl Try.call12 rfl rfl rfl (by decide) (by decide) (key_spec (callAt calls x.1).2.1 _) (fun v42 Ps42 hR42 => ?_)) ?_
    ·
      obtain ⟨rfl, rfl⟩ := hR42
      refine ⟨⟨rfl, trivial⟩, ?_⟩
      refine (AH_ready [8] (by kernel_rfl) (by decide) ?_)
      refine AHs_cons rfl rfl rfl (by decide) (OpT_make (r := 601) (m := n) rfl Try.underlying35 TI.hi5 TI.hz5 TI.hs5 rfl rfl (by rw [TI.hby5]; omega) (by unfold maxLen; omega) ((made_one _ _).trans (made_bytes n)) (fun v44 => ?_)) ?_
      ·
        refine ⟨⟨rfl, trivial⟩, ?_⟩
        refine (AH_ready [9] (by kernel_rfl) (by decide) ?_)
        refine AHs_cons rfl rfl rfl (by decide) (OpT_call 700 [0, 601] [400] rfl Try.call11 rfl rfl rfl (by decide) (by decide) (put_spec gc room x.2 (keyB (callAt calls x.1).2.1) (keyB_length _) v44 (List.replicate n 0) _ (rd_star 1 rfl (fun h hp => rdP_cast (rowP_rd hp) rfl (List.length_replicate).symm))) (fun v45 Ps45 hR45 => ?_)) ?_
        ·
          obtain ⟨rfl, rfl⟩ := hR45
          refine ⟨⟨rfl, trivial⟩, ?_⟩
          refine (AH_take 10 rfl (by kernel_rfl) (by kernel_rfl) (by kernel_rfl) rfl rfl (by decide) (Pu_assign rfl rfl) (AH_done (by kernel_rfl) (X_then ?_)))
          refine W_seq ?_
          refine W_seq ?_
          refine W.pre (K' := [(0, _), (1, _), (5, _), (7, _), (8, _), (9, _), (27, _)]) (L' := [(0, _), (601, _), (700, _)]) ?_ ⟨rfl, ⟨rfl, ⟨rfl, ⟨rfl, ⟨rfl, ⟨rfl, ⟨rfl, trivial⟩⟩⟩⟩⟩⟩⟩ ⟨rfl, ⟨rfl, ⟨rfl, trivial⟩⟩⟩
          obtain ⟨l, hl⟩ : ∃ l, putC room x.2 (keyB (callAt calls x.1).2.1) (List.replicate n 0) = l := ⟨_, rfl⟩
          refine W_fact (r := 700) rfl (fun h hp => hp.1) (fun hgd => ?_)
          have hq := putB_zeros (room := room) (n := n)
          have hlast := putC_last (room := room) (l := x.2) (k := keyB (callAt calls x.1).2.1) (d := List.replicate n 0)
          rw [hl] at hgd hlast
          rw [hl]
          have hfits := hgd.fits
          refine W_regL (WL_pure rfl rfl (by decide) (Pu_move rfl rfl) (WL_pure rfl rfl (by decide) (Pu_move rfl rfl) (WL_pure rfl rfl (by decide) (Pu_bin rfl rfl rfl (run_gtr _ _ _ _ _ _)) (WL_pure rfl rfl (by decide) (Pu_move rfl rfl) (WL_guardP rfl rfl rfl rfl (by decide) (fun hb => (Pu_move rfl rfl)) (WL_guardP rfl rfl rfl rfl (by decide) (fun hb => (Pu_move rfl rfl)) (WL_guardP rfl rfl rfl rfl (by decide) (fun hb => (Pu_bin rfl (ev_gv rfl hb) (ev_gv rfl hb) (run_leq _ _ _ _ _ _))) (WL_pure rfl rfl (by decide) (Pu_and rfl rfl rfl) (WL_pure rfl rfl (by decide) (Pu_bin rfl rfl rfl (run_neb _ _ _ Try.underlying4 _ _)) (WL_pure rfl rfl (by decide) (Pu_move rfl rfl) (WL_gPT rfl rfl rfl (by rw [hq]; rfl) rfl (by decide) (Pu_move rfl rfl) (WL_gT rfl rfl rfl (by rw [hq]; rfl) rfl (by decide) (OpT_call 800 [0, 601] [700] rfl Try.call13 rfl rfl rfl (by decide) (by decide) (total_spec gc room l _) (fun v57 Ps57 hR57 => ?_))))))))))))))
          obtain ⟨rfl, rfl⟩ := hR57
          refine (WL_gPT rfl rfl rfl (by rw [hq]; rfl) rfl (by decide) (Pu_move rfl rfl) (WL_gPT rfl rfl rfl (by rw [hq]; rfl) rfl (by decide) (Pu_bin rfl rfl rfl (run_gtr _ _ _ _ _ _)) (WL_pure rfl rfl (by decide) (Pu_pickF rfl rfl hq rfl) (WL_nil (X_then ?_)))))
          refine W_false rfl (decide_eq_false (by omega)) ?_
          refine W_skip (X_then ?_)
          refine W_seq ?_
          refine W.pre (K' := [(0, _), (1, _), (5, _), (7, _), (8, _), (9, _), (27, _), (60, _)]) (L' := [(0, _), (601, _), (800, _)]) ?_ ⟨rfl, ⟨rfl, ⟨rfl, ⟨rfl, ⟨rfl, ⟨rfl, ⟨rfl, ⟨rfl, trivial⟩⟩⟩⟩⟩⟩⟩⟩ ⟨rfl, ⟨rfl, ⟨rfl, trivial⟩⟩⟩
          refine W_regL (WL_pure rfl rfl (by decide) (Pu_move rfl rfl) (WL_cons rfl rfl (by decide) (OpT_call 900 [0, 601] [800] rfl Try.call14 rfl rfl rfl (by decide) (by decide) (keys_spec gc room l _) (fun v62 Ps62 hR62 => ?_))))
          subst hR62
          refine (WL_pure rfl rfl (by decide) (Pu_assign rfl rfl) (WL_nil (X_then ?_)))
          refine W_seq ?_
          refine W.pre (K' := [(0, _), (1, _), (5, _), (7, _), (8, _), (9, _), (10, _), (27, _), (60, _)]) (L' := [(0, _), (601, _), (900, _), (901, _)]) ?_ ⟨rfl, ⟨rfl, ⟨rfl, ⟨rfl, ⟨rfl, ⟨rfl, ⟨rfl, ⟨rfl, ⟨rfl, trivial⟩⟩⟩⟩⟩⟩⟩⟩⟩ ⟨rfl, ⟨rfl, ⟨rfl, ⟨rfl, trivial⟩⟩⟩⟩
          rcases Bool.eq_false_or_eq_true (putB room (List.replicate n 0)) with hsp13 | hsp13
          ·
            obtain ⟨hk1, hk2⟩ := hlast hsp13
            have hrl : (keys l).reverse.length = (keys l).length := List.length_reverse
            have hids : Ids (keys l).reverse := fun y hy => hgd.ids y (List.mem_reverse.1 hy)
            have hz : decide (((keys l).reverse.length : Int) = 0) = false := decide_eq_false (by omega)
            have hk3 : ((keys l).reverse.getD 0 []).length = 32 := by rw [hk1]; exact keyB_length _
            refine W_draw (N := 18) (by kernel_rfl) rfl [(0, _), (901, _)] ⟨rfl, ⟨rfl, trivial⟩⟩ ?_
            refine (AH_take 0 rfl (by kernel_rfl) (by kernel_rfl) (by kernel_rfl) rfl rfl (by decide) (Pu_move rfl rfl) (AH_take 1 rfl (by kernel_rfl) (by kernel_rfl) (by kernel_rfl) rfl rfl (by decide) (Pu_move rfl rfl) (AH_takeT 2 rfl (by kernel_rfl) (by kernel_rfl) (by kernel_rfl) rfl rfl rfl (by rw [hsp13]; rfl) rfl (by decide) (Pu_move rfl rfl) (AH_takeT 3 rfl (by kernel_rfl) (by kernel_rfl) (by kernel_rfl) rfl rfl rfl (by rw [hsp13]; rfl) rfl (by decide) (Pu_len (r := 901) rfl Try.runUnderlying37 rfl rfl rowI_rd) (AH_takeT 4 rfl (by kernel_rfl) (by kernel_rfl) (by kernel_rfl) rfl rfl rfl (by rw [hsp13]; rfl) rfl (by decide) (Pu_bin rfl rfl rfl (run_eql _ _ _ _ _ _)) (AH_takeT 5 rfl (by kernel_rfl) (by kernel_rfl) (by kernel_rfl) rfl rfl rfl (by rw [hsp13]; rfl) rfl (by decide) (Pu_move rfl rfl) (AH_takeT 6 rfl (by kernel_rfl) (by kernel_rfl) (by kernel_rfl) rfl rfl rfl (by rw [hz]; rfl) rfl (by decide) (Pu_move rfl rfl) (AH_takeT 7 rfl (by kernel_rfl) (by kernel_rfl) (by kernel_rfl) rfl rfl rfl (by rw [hz]; rfl) rfl (by decide) (Pu_idxS (r := 901) rfl Try.runUnderlying37 Try.sizeOf33 rfl rfl rfl rowI_rd (by omega)) (AH_takeT 8 rfl (by kernel_rfl) (by kernel_rfl) (by kernel_rfl) rfl rfl rfl (by rw [hz]; rfl) rfl (by decide) (Pu_loadSN (r := 901) rfl Try.isAgg33 Try.sizeOf33 rfl rfl rowI_rd ((bs_length _).trans hk3) (by decide) (idsC_get (k := 0) hids (by omega))) (AH_takeT 9 rfl (by kernel_rfl) (by kernel_rfl) (by kernel_rfl) rfl rfl rfl (by rw [hz]; rfl) rfl (by decide) (Pu_move rfl rfl) (AH_takeT 10 rfl (by kernel_rfl) (by kernel_rfl) (by kernel_rfl) rfl rfl rfl (by rw [hz]; rfl) rfl (by decide) (Pu_move rfl rfl) (AH_takeT 11 rfl (by kernel_rfl) (by kernel_rfl) (by kernel_rfl) rfl rfl rfl (by rw [hz]; rfl) rfl (by decide) (Pu_idxS (r := 0) rfl Try.runUnderlying22 Try.sizeOf30 rfl rfl rfl (fun h hp => Rd.orig hrc h hp) (by omega)) (AH_takeT 12 rfl (by kernel_rfl) (by kernel_rfl) (by kernel_rfl) rfl rfl rfl (by rw [hz]; rfl) rfl (by decide) (Pu_fieldAddrE (off := 1) rfl rfl (by kernel_rfl)) (AH_takeT 13 rfl (by kernel_rfl) (by kernel_rfl) (by kernel_rfl) rfl rfl rfl (by rw [hz]; rfl) rfl (by decide) (Pu_loadS (r := 0) rfl Try.isAgg3 rfl rfl (fun h hp => Rd.orig hrc h hp) ca1) (AH_ready [14] (by kernel_rfl) (by decide) ?_)))))))))))))))
            refine AHs_gT rfl rfl rfl rfl (by rw [hz]; rfl) rfl (by decide) (OpT_call 1000 [0, 601, 900, 901] [] rfl Try.call12 rfl rfl rfl (by decide) (by decide) (key_spec (callAt calls x.1).2.1 _) (fun v77 Ps77 hR77 => ?_)) ?_
            ·
              obtain ⟨rfl, rfl⟩ := hR77
              refine ⟨⟨rfl, ⟨rfl, trivial⟩⟩, ?_⟩
              refine (AH_takeT 15 rfl (by kernel_rfl) (by kernel_rfl) (by kernel_rfl) rfl rfl rfl (by rw [hz]; rfl) rfl (by decide) (Pu_bin rfl rfl rfl (run_idNe _ _ hk3 (keyB_length _) _ _)) (AH_takeT 16 rfl (by kernel_rfl) (by kernel_rfl) (by kernel_rfl) rfl rfl rfl (by rw [hsp13]; rfl) rfl (by decide) (Pu_pickF rfl rfl hz rfl) (AH_take 17 rfl (by kernel_rfl) (by kernel_rfl) (by kernel_rfl) rfl rfl (by decide) (Pu_pickT rfl rfl hsp13 rfl) (AH_done (by kernel_rfl) (X_then ?_)))))
              refine W_false rfl (by first | (rw [hk1]; simp; done) | rfl) ?_
              refine W_skip (X_block (X_then ?_))
              refine W.pre (K' := [(0, _), (1, _), (5, _), (7, _), (8, _), (9, _), (10, _), (27, _), (60, _), (80, _)]) (L' := [(0, _), (601, _), (900, _), (901, _)]) ?_ ⟨rfl, ⟨rfl, ⟨rfl, ⟨rfl, ⟨rfl, ⟨rfl, ⟨rfl, ⟨rfl, ⟨rfl, ⟨rfl, trivial⟩⟩⟩⟩⟩⟩⟩⟩⟩⟩ ⟨rfl, ⟨rfl, ⟨rfl, ⟨rfl, trivial⟩⟩⟩⟩
              refine W_regL (WL_pure rfl rfl (by decide) (Pu_move rfl rfl) (WL_pure rfl rfl (by decide) (Pu_bin rfl rfl rfl (run_add _ _ _ _ _ (by omega))) (WL_pure rfl rfl (by decide) (Pu_assign rfl rfl) (WL_nil ?_))))
              refine X_ren 900 400 rfl ?_
              exact X_round (x.1 + 1, _) trivial (by show 60 - (x.1 + 1) < 60 - x.1; omega) ⟨rfl, rfl, rfl, rfl, trivial⟩ ⟨rfl, rfl, trivial⟩
            exact AHs_nil
          ·
            refine W_draw (N := 18) (by kernel_rfl) rfl [(0, _), (901, _)] ⟨rfl, ⟨rfl, trivial⟩⟩ ?_
            refine (AH_take 0 rfl (by kernel_rfl) (by kernel_rfl) (by kernel_rfl) rfl rfl (by decide) (Pu_move rfl rfl) (AH_take 1 rfl (by kernel_rfl) (by kernel_rfl) (by kernel_rfl) rfl rfl (by decide) (Pu_move rfl rfl) (AH_takeF 2 rfl (by kernel_rfl) (by kernel_rfl) (by kernel_rfl) rfl rfl rfl (by rw [hsp13]; rfl) rfl (by decide) (AH_takeF 3 rfl (by kernel_rfl) (by kernel_rfl) (by kernel_rfl) rfl rfl rfl (by rw [hsp13]; rfl) rfl (by decide) (AH_takeF 4 rfl (by kernel_rfl) (by kernel_rfl) (by kernel_rfl) rfl rfl rfl (by rw [hsp13]; rfl) rfl (by decide) (AH_takeF 5 rfl (by kernel_rfl) (by kernel_rfl) (by kernel_rfl) rfl rfl rfl (by rw [hsp13]; rfl) rfl (by decide) (AH_takeF 6 rfl (by kernel_rfl) (by kernel_rfl) (by kernel_rfl) rfl rfl rfl rfl rfl (by decide) (AH_takeF 7 rfl (by kernel_rfl) (by kernel_rfl) (by kernel_rfl) rfl rfl rfl rfl rfl (by decide) (AH_takeF 8 rfl (by kernel_rfl) (by kernel_rfl) (by kernel_rfl) rfl rfl rfl rfl rfl (by decide) (AH_takeF 9 rfl (by kernel_rfl) (by kernel_rfl) (by kernel_rfl) rfl rfl rfl rfl rfl (by decide) (AH_takeF 10 rfl (by kernel_rfl) (by kernel_rfl) (by kernel_rfl) rfl rfl rfl rfl rfl (by decide) (AH_takeF 11 rfl (by kernel_rfl) (by kernel_rfl) (by kernel_rfl) rfl rfl rfl rfl rfl (by decide) (AH_takeF 12 rfl (by kernel_rfl) (by kernel_rfl) (by kernel_rfl) rfl rfl rfl rfl rfl (by decide) (AH_takeF 13 rfl (by kernel_rfl) (by kernel_rfl) (by kernel_rfl) rfl rfl rfl rfl rfl (by decide) (AH_ready [14] (by kernel_rfl) (by decide) ?_)))))))))))))))
            refine AHs_gF rfl rfl rfl rfl rfl rfl (by decide) ?_ ?_
            ·
              refine (AH_takeF 15 rfl (by kernel_rfl) (by kernel_rfl) (by kernel_rfl) rfl rfl rfl rfl rfl (by decide) (AH_takeF 16 rfl (by kernel_rfl) (by kernel_rfl) (by kernel_rfl) rfl rfl rfl (by rw [hsp13]; rfl) rfl (by decide) (AH_take 17 rfl (by kernel_rfl) (by kernel_rfl) (by kernel_rfl) rfl rfl (by decide) (Pu_pickF rfl rfl hsp13 rfl) (AH_done (by kernel_rfl) (X_then ?_)))))
              refine W_false rfl (by first | (rw [hk1]; simp; done) | rfl) ?_
              refine W_skip (X_block (X_then ?_))
              refine W.pre (K' := [(0, _), (1, _), (5, _), (7, _), (8, _), (9, _), (10, _), (27, _), (60, _), (80, _)]) (L' := [(0, _), (601, _), (900, _), (901, _)]) ?_ ⟨rfl, ⟨rfl, ⟨rfl, ⟨rfl, ⟨rfl, ⟨rfl, ⟨rfl, ⟨rfl, ⟨rfl, ⟨rfl, trivial⟩⟩⟩⟩⟩⟩⟩⟩⟩⟩ ⟨rfl, ⟨rfl, ⟨rfl, ⟨rfl, trivial⟩⟩⟩⟩
              refine W_regL (WL_pure rfl rfl (by decide) (Pu_move rfl rfl) (WL_pure rfl rfl (by decide) (Pu_bin rfl rfl rfl (run_add _ _ _ _ _ (by omega))) (WL_pure rfl rfl (by decide) (Pu_assign rfl rfl) (WL_nil ?_))))
              refine X_ren 900 400 rfl ?_
              exact X_round (x.1 + 1, _) trivial (by show 60 - (x.1 + 1) < 60 - x.1; omega) ⟨rfl, rfl, rfl, rfl, trivial⟩ ⟨rfl, rfl, trivial⟩
            exact AHs_nil
        exact AHs_nil
      exact AHs_nil
    refine AHs_cons rfl rfl rfl (by decide) (OpT_make (r := 501) (m := n) rfl Try.underlying35 TI.hi5 TI.hz5 TI.hs5 rfl rfl (by rw [TI.hby5]; omega) (by unfold maxLen; omega) ((made_one _ _).trans (made_bytes n)) (fun v44 => ?_)) ?_
    ·
      refine ⟨⟨rfl, trivial⟩, ?_⟩
      refine (AH_ready [6] (by kernel_rfl) (by decide) ?_)
      refine AHs_cons rfl rfl rfl (by decide) (OpT_call 600 [0, 400, 501] [] rfl Try.call12 rfl rfl rfl (by decide) (by decide) (key_spec (callAt calls x.1).2.1 _) (fun v42 Ps42 hR42 => ?_)) ?_
      ·
        obtain ⟨rfl, rfl⟩ := hR42
        refine ⟨⟨rfl, trivial⟩, ?_⟩
        refine (AH_ready [9] (by kernel_rfl) (by decide) ?_)
        refine AHs_cons rfl rfl rfl (by decide) (OpT_call 700 [0, 501] [400] rfl Try.call11 rfl rfl rfl (by decide) (by decide) (put_spec gc room x.2 (keyB (callAt calls x.1).2.1) (keyB_length _) v44 (List.replicate n 0) _ (rd_star 1 rfl (fun h hp => rdP_cast (rowP_rd hp) rfl (List.length_replicate).symm))) (fun v45 Ps45 hR45 => ?_)) ?_
        ·
          obtain ⟨rfl, rfl⟩ := hR45
          refine ⟨⟨rfl, trivial⟩, ?_⟩
          refine (AH_take 10 rfl (by kernel_rfl) (by kernel_rfl) (by kernel_rfl) rfl rfl (by decide) (Pu_assign rfl rfl) (AH_done (by kernel_rfl) (X_then ?_)))
          refine W_seq ?_
          refine W_seq ?_
          refine W.pre (K' := [(0, _), (1, _), (5, _), (7, _), (8, _), (9, _), (27, _)]) (L' := [(0, _), (501, _), (700, _)]) ?_ ⟨rfl, ⟨rfl, ⟨rfl, ⟨rfl, ⟨rfl, ⟨rfl, ⟨rfl, trivial⟩⟩⟩⟩⟩⟩⟩ ⟨rfl, ⟨rfl, ⟨rfl, trivial⟩⟩⟩
          obtain ⟨l, hl⟩ : ∃ l, putC room x.2 (keyB (callAt calls x.1).2.1) (List.replicate n 0) = l := ⟨_, rfl⟩
          refine W_fact (r := 700) rfl (fun h hp => hp.1) (fun hgd => ?_)
          have hq := putB_zeros (room := room) (n := n)
          have hlast := putC_last (room := room) (l := x.2) (k := keyB (callAt calls x.1).2.1) (d := List.replicate n 0)
          rw [hl] at hgd hlast
          rw [hl]
          have hfits := hgd.fits
          refine W_regL (WL_pure rfl rfl (by decide) (Pu_move rfl rfl) (WL_pure rfl rfl (by decide) (Pu_move rfl rfl) (WL_pure rfl rfl (by decide) (Pu_bin rfl rfl rfl (run_gtr _ _ _ _ _ _)) (WL_pure rfl rfl (by decide) (Pu_move rfl rfl) (WL_guardP rfl rfl rfl rfl (by decide) (fun hb => (Pu_move rfl rfl)) (WL_guardP rfl rfl rfl rfl (by decide) (fun hb => (Pu_move rfl rfl)) (WL_guardP rfl rfl rfl rfl (by decide) (fun hb => (Pu_bin rfl (ev_gv rfl hb) (ev_gv rfl hb) (run_leq _ _ _ _ _ _))) (WL_pure rfl rfl (by decide) (Pu_and rfl rfl rfl) (WL_pure rfl rfl (by decide) (Pu_bin rfl rfl rfl (run_neb _ _ _ Try.underlying4 _ _)) (WL_pure rfl rfl (by decide) (Pu_move rfl rfl) (WL_gPT rfl rfl rfl (by rw [hq]; rfl) rfl (by decide) (Pu_move rfl rfl) (WL_gT rfl rfl rfl (by rw [hq]; rfl) rfl (by decide) (OpT_call 800 [0, 501] [700] rfl Try.call13 rfl rfl rfl (by decide) (by decide) (total_spec gc room l _) (fun v57 Ps57 hR57 => ?_))))))))))))))
          obtain ⟨rfl, rfl⟩ := hR57
          refine (WL_gPT rfl rfl rfl (by rw [hq]; rfl) rfl (by decide) (Pu_move rfl rfl) (WL_gPT rfl rfl rfl (by rw [hq]; rfl) rfl (by decide) (Pu_bin rfl rfl rfl (run_gtr _ _ _ _ _ _)) (WL_pure rfl rfl (by decide) (Pu_pickF rfl rfl hq rfl) (WL_nil (X_then ?_)))))
          refine W_false rfl (decide_eq_false (by omega)) ?_
          refine W_skip (X_then ?_)
          refine W_seq ?_
          refine W.pre (K' := [(0, _), (1, _), (5, _), (7, _), (8, _), (9, _), (27, _), (60, _)]) (L' := [(0, _), (501, _), (800, _)]) ?_ ⟨rfl, ⟨rfl, ⟨rfl, ⟨rfl, ⟨rfl, ⟨rfl, ⟨rfl, ⟨rfl, trivial⟩⟩⟩⟩⟩⟩⟩⟩ ⟨rfl, ⟨rfl, ⟨rfl, trivial⟩⟩⟩
          refine W_regL (WL_pure rfl rfl (by decide) (Pu_move rfl rfl) (WL_cons rfl rfl (by decide) (OpT_call 900 [0, 501] [800] rfl Try.call14 rfl rfl rfl (by decide) (by decide) (keys_spec gc room l _) (fun v62 Ps62 hR62 => ?_))))
          subst hR62
          refine (WL_pure rfl rfl (by decide) (Pu_assign rfl rfl) (WL_nil (X_then ?_)))
          refine W_seq ?_
          refine W.pre (K' := [(0, _), (1, _), (5, _), (7, _), (8, _), (9, _), (10, _), (27, _), (60, _)]) (L' := [(0, _), (501, _), (900, _), (901, _)]) ?_ ⟨rfl, ⟨rfl, ⟨rfl, ⟨rfl, ⟨rfl, ⟨rfl, ⟨rfl, ⟨rfl, ⟨rfl, trivial⟩⟩⟩⟩⟩⟩⟩⟩⟩ ⟨rfl, ⟨rfl, ⟨rfl, ⟨rfl, trivial⟩⟩⟩⟩
          rcases Bool.eq_false_or_eq_true (putB room (List.replicate n 0)) with hsp13 | hsp13
          ·
            obtain ⟨hk1, hk2⟩ := hlast hsp13
            have hrl : (keys l).reverse.length = (keys l).length := List.length_reverse
            have hids : Ids (keys l).reverse := fun y hy => hgd.ids y (List.mem_reverse.1 hy)
            have hz : decide (((keys l).reverse.length : Int) = 0) = false := decide_eq_false (by omega)
            have hk3 : ((keys l).reverse.getD 0 []).length = 32 := by rw [hk1]; exact keyB_length _
            refine W_draw (N := 18) (by kernel_rfl) rfl [(0, _), (901, _)] ⟨rfl, ⟨rfl, trivial⟩⟩ ?_
            refine (AH_take 0 rfl (by kernel_rfl) (by kernel_rfl) (by kernel_rfl) rfl rfl (by decide) (Pu_move rfl rfl) (AH_take 1 rfl (by kernel_rfl) (by kernel_rfl) (by kernel_rfl) rfl rfl (by decide) (Pu_move rfl rfl) (AH_takeT 2 rfl (by kernel_rfl) (by kernel_rfl) (by kernel_rfl) rfl rfl rfl (by rw [hsp13]; rfl) rfl (by decide) (Pu_move rfl rfl) (AH_takeT 3 rfl (by kernel_rfl) (by kernel_rfl) (by kernel_rfl) rfl rfl rfl (by rw [hsp13]; rfl) rfl (by decide) (Pu_len (r := 901) rfl Try.runUnderlying37 rfl rfl rowI_rd) (AH_takeT 4 rfl (by kernel_rfl) (by kernel_rfl) (by kernel_rfl) rfl rfl rfl (by rw [hsp13]; rfl) rfl (by decide) (Pu_bin rfl rfl rfl (run_eql _ _ _ _ _ _)) (AH_takeT 5 rfl (by kernel_rfl) (by kernel_rfl) (by kernel_rfl) rfl rfl rfl (by rw [hsp13]; rfl) rfl (by decide) (Pu_move rfl rfl) (AH_takeT 6 rfl (by kernel_rfl) (by kernel_rfl) (by kernel_rfl) rfl rfl rfl (by rw [hz]; rfl) rfl (by decide) (Pu_move rfl rfl) (AH_takeT 7 rfl (by kernel_rfl) (by kernel_rfl) (by kernel_rfl) rfl rfl rfl (by rw [hz]; rfl) rfl (by decide) (Pu_idxS (r := 901) rfl Try.runUnderlying37 Try.sizeOf33 rfl rfl rfl rowI_rd (by omega)) (AH_takeT 8 rfl (by kernel_rfl) (by kernel_rfl) (by kernel_rfl) rfl rfl rfl (by rw [hz]; rfl) rfl (by decide) (Pu_loadSN (r := 901) rfl Try.isAgg33 Try.sizeOf33 rfl rfl rowI_rd ((bs_length _).trans hk3) (by decide) (idsC_get (k := 0) hids (by omega))) (AH_takeT 9 rfl (by kernel_rfl) (by kernel_rfl) (by kernel_rfl) rfl rfl rfl (by rw [hz]; rfl) rfl (by decide) (Pu_move rfl rfl) (AH_takeT 10 rfl (by kernel_rfl) (by kernel_rfl) (by kernel_rfl) rfl rfl rfl (by rw [hz]; rfl) rfl (by decide) (Pu_move rfl rfl) (AH_takeT 11 rfl (by kernel_rfl) (by kernel_rfl) (by kernel_rfl) rfl rfl rfl (by rw [hz]; rfl) rfl (by decide) (Pu_idxS (r := 0) rfl Try.runUnderlying22 Try.sizeOf30 rfl rfl rfl (fun h hp => Rd.orig hrc h hp) (by omega)) (AH_takeT 12 rfl (by kernel_rfl) (by kernel_rfl) (by kernel_rfl) rfl rfl rfl (by rw [hz]; rfl) rfl (by decide) (Pu_fieldAddrE (off := 1) rfl rfl (by kernel_rfl)) (AH_takeT 13 rfl (by kernel_rfl) (by kernel_rfl) (by kernel_rfl) rfl rfl rfl (by rw [hz]; rfl) rfl (by decide) (Pu_loadS (r := 0) rfl Try.isAgg3 rfl rfl (fun h hp => Rd.orig hrc h hp) ca1) (AH_ready [14] (by kernel_rfl) (by decide) ?_)))))))))))))))
            refine AHs_gT rfl rfl rfl rfl (by rw [hz]; rfl) rfl (by decide) (OpT_call 1000 [0, 501, 900, 901] [] rfl Try.call12 rfl rfl rfl (by decide) (by decide) (key_spec (callAt calls x.1).2.1 _) (fun v77 Ps77 hR77 => ?_)) ?_
            ·
              obtain ⟨rfl, rfl⟩ := hR77
              refine ⟨⟨rfl, ⟨rfl, trivial⟩⟩, ?_⟩
              refine (AH_takeT 15 rfl (by kernel_rfl) (by kernel_rfl) (by kernel_rfl) rfl rfl rfl (by rw [hz]; rfl) rfl (by decide) (Pu_bin rfl rfl rfl (run_idNe _ _ hk3 (keyB_length _) _ _)) (AH_takeT 16 rfl (by kernel_rfl) (by kernel_rfl) (by kernel_rfl) rfl rfl rfl (by rw [hsp13]; rfl) rfl (by decide) (Pu_pickF rfl rfl hz rfl) (AH_take 17 rfl (by kernel_rfl) (by kernel_rfl) (by kernel_rfl) rfl rfl (by decide) (Pu_pickT rfl rfl hsp13 rfl) (AH_done (by kernel_rfl) (X_then ?_)))))
              refine W_false rfl (by first | (rw [hk1]; simp; done) | rfl) ?_
              refine W_skip (X_block (X_then ?_))
              refine W.pre (K' := [(0, _), (1, _), (5, _), (7, _), (8, _), (9, _), (10, _), (27, _), (60, _), (80, _)]) (L' := [(0, _), (501, _), (900, _), (901, _)]) ?_ ⟨rfl, ⟨rfl, ⟨rfl, ⟨rfl, ⟨rfl, ⟨rfl, ⟨rfl, ⟨rfl, ⟨rfl, ⟨rfl, trivial⟩⟩⟩⟩⟩⟩⟩⟩⟩⟩ ⟨rfl, ⟨rfl, ⟨rfl, ⟨rfl, trivial⟩⟩⟩⟩
              refine W_regL (WL_pure rfl rfl (by decide) (Pu_move rfl rfl) (WL_pure rfl rfl (by decide) (Pu_bin rfl rfl rfl (run_add _ _ _ _ _ (by omega))) (WL_pure rfl rfl (by decide) (Pu_assign rfl rfl) (WL_nil ?_))))
              refine X_ren 900 400 rfl ?_
              exact X_round (x.1 + 1, _) trivial (by show 60 - (x.1 + 1) < 60 - x.1; omega) ⟨rfl, rfl, rfl, rfl, trivial⟩ ⟨rfl, rfl, trivial⟩
            exact AHs_nil
          ·
            refine W_draw (N := 18) (by kernel_rfl) rfl [(0, _), (901, _)] ⟨rfl, ⟨rfl, trivial⟩⟩ ?_
            refine (AH_take 0 rfl (by kernel_rfl) (by kernel_rfl) (by kernel_rfl) rfl rfl (by decide) (Pu_move rfl rfl) (AH_take 1 rfl (by kernel_rfl) (by kernel_rfl) (by kernel_rfl) rfl rfl (by decide) (Pu_move rfl rfl) (AH_takeF 2 rfl (by kernel_rfl) (by kernel_rfl) (by kernel_rfl) rfl rfl rfl (by rw [hsp13]; rfl) rfl (by decide) (AH_takeF 3 rfl (by kernel_rfl) (by kernel_rfl) (by kernel_rfl) rfl rfl rfl (by rw [hsp13]; rfl) rfl (by decide) (AH_takeF 4 rfl (by kernel_rfl) (by kernel_rfl) (by kernel_rfl) rfl rfl rfl (by rw [hsp13]; rfl) rfl (by decide) (AH_takeF 5 rfl (by kernel_rfl) (by kernel_rfl) (by kernel_rfl) rfl rfl rfl (by rw [hsp13]; rfl) rfl (by decide) (AH_takeF 6 rfl (by kernel_rfl) (by kernel_rfl) (by kernel_rfl) rfl rfl rfl rfl rfl (by decide) (AH_takeF 7 rfl (by kernel_rfl) (by kernel_rfl) (by kernel_rfl) rfl rfl rfl rfl rfl (by decide) (AH_takeF 8 rfl (by kernel_rfl) (by kernel_rfl) (by kernel_rfl) rfl rfl rfl rfl rfl (by decide) (AH_takeF 9 rfl (by kernel_rfl) (by kernel_rfl) (by kernel_rfl) rfl rfl rfl rfl rfl (by decide) (AH_takeF 10 rfl (by kernel_rfl) (by kernel_rfl) (by kernel_rfl) rfl rfl rfl rfl rfl (by decide) (AH_takeF 11 rfl (by kernel_rfl) (by kernel_rfl) (by kernel_rfl) rfl rfl rfl rfl rfl (by decide) (AH_takeF 12 rfl (by kernel_rfl) (by kernel_rfl) (by kernel_rfl) rfl rfl rfl rfl rfl (by decide) (AH_takeF 13 rfl (by kernel_rfl) (by kernel_rfl) (by kernel_rfl) rfl rfl rfl rfl rfl (by decide) (AH_ready [14] (by kernel_rfl) (by decide) ?_)))))))))))))))
            refine AHs_gF rfl rfl rfl rfl rfl rfl (by decide) ?_ ?_
            ·
              refine (AH_takeF 15 rfl (by kernel_rfl) (by kernel_rfl) (by kernel_rfl) rfl rfl rfl rfl rfl (by decide) (AH_takeF 16 rfl (by kernel_rfl) (by kernel_rfl) (by kernel_rfl) rfl rfl rfl (by rw [hsp13]; rfl) rfl (by decide) (AH_take 17 rfl (by kernel_rfl) (by kernel_rfl) (by kernel_rfl) rfl rfl (by decide) (Pu_pickF rfl rfl hsp13 rfl) (AH_done (by kernel_rfl) (X_then ?_)))))
              refine W_false rfl (by first | (rw [hk1]; simp; done) | rfl) ?_
              refine W_skip (X_block (X_then ?_))
              refine W.pre (K' := [(0, _), (1, _), (5, _), (7, _), (8, _), (9, _), (10, _), (27, _), (60, _), (80, _)]) (L' := [(0, _), (501, _), (900, _), (901, _)]) ?_ ⟨rfl, ⟨rfl, ⟨rfl, ⟨rfl, ⟨rfl, ⟨rfl, ⟨rfl, ⟨rfl, ⟨rfl, ⟨rfl, trivial⟩⟩⟩⟩⟩⟩⟩⟩⟩⟩ ⟨rfl, ⟨rfl, ⟨rfl, ⟨rfl, trivial⟩⟩⟩⟩
              refine W_regL (WL_pure rfl rfl (by decide) (Pu_move rfl rfl) (WL_pure rfl rfl (by decide) (Pu_bin rfl rfl rfl (run_add _ _ _ _ _ (by omega))) (WL_pure rfl rfl (by decide) (Pu_assign rfl rfl) (WL_nil ?_))))
              refine X_ren 900 400 rfl ?_
              exact X_round (x.1 + 1, _) trivial (by show 60 - (x.1 + 1) < 60 - x.1; omega) ⟨rfl, rfl, rfl, rfl, trivial⟩ ⟨rfl, rfl, trivial⟩
            exact AHs_nil
        exact AHs_nil
      exact AHs_nil
    exact AHs_nil
  ·
    refine W_exit (X_then_exit (X_then_exit (X_block_exit (X_then ?_))))
    refine W_seq ?_
    refine W.pre (K' := [(0, _), (1, _), (5, _), (7, _), (27, _)]) (L' := [(0, _), (400, _)]) ?_ ⟨rfl, ⟨rfl, ⟨rfl, ⟨rfl, ⟨rfl, trivial⟩⟩⟩⟩⟩ ⟨rfl, ⟨rfl, trivial⟩⟩
    refine W_regL (WL_pure rfl rfl (by decide) (Pu_assign rfl rfl) (WL_nil (X_then ?_)))
    refine W_ret ?_
    exact X_ret [] (Ps := []) (res1 Try.results3 rfl) rfl (by decide) rfl

theorem cacheBounds_any (W : World) (a0 : Int) (lo0 : -9223372036854775808 ≤ a0) (hi0 : a0 ≤ 9223372036854775807) (v1 : Value) (l1 : List (Bool × Int × Int)) (hr1 : Rd W 3 v1 l1.length (callsC l1)) (hl1 : l1.length ≤ maxLen) :
    Calls Try.prog 3 #[.int .i64 a0, v1] W fun e W' => e = .returned (.bool true) ∧ Chg [] W W' := calls_law (cacheBounds_law W a0 v1 l1 hr1)
end Go.Proofs.Ytamhhkjddmjanaa
