/- Texts of this proof, one behind the other: AreaH. -/
import Derived.Test.YtjopgnkffhfhkaaK3
/- Areas: the law of bounds. -/
namespace Go.Proofs.Ytjopgnkffhfhkaa
open Go.RowKit
set_option linter.unusedVariables false
set_option linter.unusedSimpArgs false
set_option maxRecDepth 8000

section
open Go.Deep Go.RowKit Go.ChangeShapes Go.WideShapes
variable {H : Type} {enc : TypeId × Value → H} {w : World} {base b0 : Nat} {spare : Nat → Bool} {held : Bool} {r : Reach} {v : Value} {d : DataW H} {ps : List MemPlace}
theorem tr_call {cs : List Value} (hc : Tr enc Try.prog w base spare held 30 cs) : ∃ c : CallA, cs = callF c ∧ CallOk c := by
  obtain ⟨hl, hf⟩ := hc.struct Try.underlying30
  rw [show (Try.prog).cellsOf 30 = 5 by kernel_rfl] at hl
  obtain ⟨a, ha, _, _⟩ := (hf 0 _ rfl).int Try.underlying3
  obtain ⟨b, hb, lb, ub⟩ := (hf 1 _ rfl).int Try.underlying3
  obtain ⟨c, hc', _, _⟩ := (hf 2 _ rfl).int Try.underlying3
  obtain ⟨e, he, _, _⟩ := (hf 3 _ rfl).int Try.underlying3
  obtain ⟨g, hg, _, _⟩ := (hf 4 _ rfl).int Try.underlying3
  replace ha : (cs.drop 0).take ((Try.prog).cellsOf 3) = [.int .i64 a] := ha
  replace hb : (cs.drop 1).take ((Try.prog).cellsOf 3) = [.int .i64 b] := hb
  replace hc' : (cs.drop 2).take ((Try.prog).cellsOf 3) = [.int .i64 c] := hc'
  replace he : (cs.drop 3).take ((Try.prog).cellsOf 3) = [.int .i64 e] := he
  replace hg : (cs.drop 4).take ((Try.prog).cellsOf 3) = [.int .i64 g] := hg
  rw [show (Try.prog).cellsOf 3 = 1 by kernel_rfl] at ha hb hc' he hg
  refine ⟨⟨a, b, c, e, g⟩, ?_, ⟨⟨by simpa using lb, by simpa using ub⟩⟩⟩
  match cs, hl with
  | [x0, x1, x2, x3, x4], hl =>
    simp at ha hb hc' he hg
    rw [ha, hb, hc', he, hg]
    rfl
theorem rdCalls_of {fuel : Nat} {x : DataW H × List MemPlace} (h : DataW.trod enc Try.prog w base spare held fuel 22 [v] = some x) :
    ∃ l : List CallA, (Rd w 5 v l.length (recC callF l) ∧ ∀ c ∈ l, CallOk c) ∧ l.length ≤ maxLen := by
  obtain ⟨rs, h1, h2, h3⟩ := rowsT_of Try.underlying22 (show (Try.prog).cellsOf 30 = 5 by kernel_rfl) (by decide) h
  obtain ⟨l, hl, hok⟩ : ∃ l : List CallA, rs = l.map callF ∧ ∀ c ∈ l, CallOk c := by
    clear h1 h2 h
    induction rs with
    | nil => exact ⟨[], rfl, by simp⟩
    | cons r rs ih =>
      obtain ⟨l, rfl, hok⟩ := ih fun r hr => h3 r (by simp [hr])
      obtain ⟨c, hc, hk⟩ := tr_call (h3 r (by simp)).2
      exact ⟨c :: l, by rw [hc]; rfl, by intro y hy; rcases List.mem_cons.1 hy with rfl | hy; exact hk; exact hok y hy⟩
  subst hl
  rw [List.length_map] at h1 h2
  exact ⟨l, ⟨h1, hok⟩, h2⟩
end
theorem star_dat {Js : List HP} {zs : List EB} (k : Nat) (hk : Js[k]? = some (datP zs)) {h : Hlt} (hs : starL Js h) : datP zs h := fun p hp => rd_star k hk (fun h' h1 => h1 p hp) h hs
theorem areaBounds_law (Wo : World) (room0 quota0 : Int) (vc : Value) (calls : List CallA) (hrc : Rd Wo 5 vc calls.length (recC callF calls)) (hok : ∀ c ∈ calls, CallOk c) :
    CallsS Try.prog 3 #[.int .i64 room0, .int .i64 quota0, vc] (orig Wo) [] (fun v Ps => v = .bool true) := by
  refine callsS_enter Try.func3 rfl Try.ntmps3 (by simp) (fun E => ?_)
  refine W_seq ?_
  refine W.pre (K' := [(0, _), (1, _), (2, _)]) (L' := [(0, _)]) ?_ ⟨rfl, ⟨rfl, ⟨rfl, trivial⟩⟩⟩ ⟨rfl, trivial⟩
  refine W_regL (WL_pure rfl rfl (by decide) (Pu_assign rfl rfl) (WL_nil (X_then ?_)))
  refine W_seq ?_
  refine W_seq ?_
  refine W.pre (K' := [(0, _), (1, _), (2, _), (6, _)]) (L' := [(0, _)]) ?_ ⟨rfl, ⟨rfl, ⟨rfl, ⟨rfl, trivial⟩⟩⟩⟩ ⟨rfl, trivial⟩
  refine W_regL (WL_cons rfl rfl (by decide) (OpT_call 200 [0] [] rfl Try.call8 rfl rfl rfl (by decide) (by decide) (known_spec _) (fun v15 Ps15 hR15 => ?_)))
  obtain ⟨rfl, rfl⟩ := hR15
  refine (WL_pure rfl rfl (by decide) (Pu_un rfl rfl (run_not _)) (WL_nil (X_then ?_)))
  refine W_false rfl (rfl) ?_
  refine W_skip (X_then ?_)
  refine W_seq ?_
  refine W.pre (K' := [(0, _), (1, _), (2, _), (6, _), (16, _)]) (L' := [(0, _)]) ?_ ⟨rfl, ⟨rfl, ⟨rfl, ⟨rfl, ⟨rfl, trivial⟩⟩⟩⟩⟩ ⟨rfl, trivial⟩
  refine W_regL (WL_pure rfl rfl (by decide) (Pu_move rfl rfl) (WL_cons rfl rfl (by decide) (OpT_call 300 [0] [] rfl Try.call9 rfl rfl rfl (by decide) (by decide) (within_spec room0 400 (by omega) (by omega) _) (fun v18 Ps18 hR18 => ?_))))
  obtain ⟨rfl, rfl⟩ := hR18
  refine (WL_pure rfl rfl (by decide) (Pu_bin rfl rfl rfl (run_add _ _ _ _ _ (by omega))) ?_)
  obtain ⟨room, hrd⟩ : ∃ n, 1 + room0 % 400 = n := ⟨_, rfl⟩
  have hr : 1 ≤ room ∧ room ≤ 400 := by omega
  rw [hrd]
  refine (WL_pure rfl rfl (by decide) (Pu_move rfl rfl) (WL_cons rfl rfl (by decide) (OpT_call 400 [0] [] rfl Try.call9 rfl rfl rfl (by decide) (by decide) (within_spec quota0 300 (by omega) (by omega) _) (fun v21 Ps21 hR21 => ?_))))
  obtain ⟨rfl, rfl⟩ := hR21
  refine (WL_pure rfl rfl (by decide) (Pu_bin rfl rfl rfl (run_add _ _ _ _ _ (by omega))) ?_)
  obtain ⟨quota, hqd⟩ : ∃ n, 1 + quota0 % 300 = n := ⟨_, rfl⟩
  have hq : 1 ≤ quota ∧ quota ≤ 300 := by omega
  rw [hqd]
  refine (WL_pure rfl rfl (by decide) (Pu_assign rfl rfl) (WL_pure rfl rfl (by decide) (Pu_assign rfl rfl) (WL_nil (X_then ?_))))
  refine W_seq ?_
  refine W.pre (K' := [(0, _), (1, _), (2, _), (6, _), (16, _)]) (L' := [(0, _)]) ?_ ⟨rfl, ⟨rfl, ⟨rfl, ⟨rfl, ⟨rfl, trivial⟩⟩⟩⟩⟩ ⟨rfl, trivial⟩
  refine W_regL (WL_pure rfl rfl (by decide) (Pu_move rfl rfl) (WL_pure rfl rfl (by decide) (Pu_move rfl rfl) (WL_cons rfl rfl (by decide) (OpT_call 500 [0] [] rfl Try.call10 rfl rfl rfl (by decide) (by decide) (new_good (room) (quota) (by omega) (by omega) _) (fun v26 Ps26 hR26 => ?_)))))
  obtain ⟨ga, rfl, rfl⟩ := hR26
  refine (WL_pure rfl rfl (by decide) (Pu_move rfl rfl) (WL_pure rfl rfl (by decide) (Pu_extract rfl rfl rfl) (WL_pure rfl rfl (by decide) (Pu_extract rfl rfl rfl) (WL_pure rfl rfl (by decide) (Pu_assign rfl rfl) (WL_pure rfl rfl (by decide) (Pu_assign rfl rfl) (WL_nil (X_then ?_)))))))
  refine W_seq ?_
  refine W_seq ?_
  refine W.pre (K' := [(0, _), (1, _), (2, _), (6, _), (7, _), (16, _)]) (L' := [(0, _), (500, _)]) ?_ ⟨rfl, ⟨rfl, ⟨rfl, ⟨rfl, ⟨rfl, ⟨rfl, trivial⟩⟩⟩⟩⟩⟩ ⟨rfl, ⟨rfl, trivial⟩⟩
  refine W_regL (WL_pure rfl rfl (by decide) (Pu_assign rfl rfl) (WL_nil (X_then ?_)))
  refine W_block ?_
  refine W_loop (α := Nat × List Bk) (fun x => [(0, .int .i64 room), (1, .int .i64 quota), (2, vc), (7, .pointer (some ⟨ga, 0, none⟩)), (9, .int .i64 (x.1 : Int))]) (fun x => [(0, orig Wo), (500, areaP ga room quota x.2)]) (fun x => BndI room quota x.2 ∧ x.2.length ≤ x.1 ∧ x.1 ≤ 80) (fun x => 80 - x.1) ((0, [])) ⟨⟨by simp, fun s => by simp [usedA]; omega, by simp [totA]; omega⟩, Nat.le_refl _, by omega⟩ ⟨rfl, ⟨rfl, ⟨rfl, ⟨rfl, ⟨rfl, trivial⟩⟩⟩⟩⟩ ⟨rfl, ⟨rfl, trivial⟩⟩ (fun x hx => ?_)
  obtain ⟨hI, hlen, hx80⟩ := hx
  refine W_seq ?_
  refine W_seq ?_
  refine W.pre (K' := [(0, _), (1, _), (2, _), (7, _), (9, _)]) (L' := [(0, _), (500, _)]) ?_ ⟨rfl, ⟨rfl, ⟨rfl, ⟨rfl, ⟨rfl, trivial⟩⟩⟩⟩⟩ ⟨rfl, ⟨rfl, trivial⟩⟩
  refine W_regL (WL_pure rfl rfl (by decide) (Pu_move rfl rfl) (WL_pure rfl rfl (by decide) (Pu_move rfl rfl) (WL_pure rfl rfl (by decide) (Pu_len (r := 0) rfl Try.runUnderlying22 rfl rfl (fun h hp => Rd.orig hrc h hp)) (WL_pure rfl rfl (by decide) (Pu_bin rfl rfl rfl (run_lss _ _ _ _ _ _)) (WL_pure rfl rfl (by decide) (Pu_move rfl rfl) (WL_guardP rfl rfl rfl rfl (by decide) (fun hb => (Pu_move rfl rfl)) (WL_guardP rfl rfl rfl rfl (by decide) (fun hb => (Pu_bin rfl (ev_gv rfl hb) rfl (run_lss _ _ _ _ _ _))) (WL_pure rfl rfl (by decide) (Pu_and rfl rfl rfl) (WL_nil (X_then ?_))))))))))
  refine W_cond rfl (fun hc36 => ?_) (fun hc36 => ?_)
  ·
    have hi : x.1 < calls.length ∧ x.1 < 80 := by simp at hc36; omega
    obtain ⟨hi1, hi2⟩ := hi
    obtain ⟨c, hcd⟩ : ∃ c, calls.getD x.1 default = c := ⟨_, rfl⟩
    have hck := (hok c (by rw [← hcd]; exact getD_mem' hi1)).key
    refine W_skip (X_then ?_)
    refine W_seq ?_
    refine W_block ?_
    refine W_seq ?_
    refine W.pre (K' := [(0, _), (1, _), (2, _), (7, _), (9, _), (36, _)]) (L' := [(0, _), (500, _)]) ?_ ⟨rfl, ⟨rfl, ⟨rfl, ⟨rfl, ⟨rfl, ⟨rfl, trivial⟩⟩⟩⟩⟩⟩ ⟨rfl, ⟨rfl, trivial⟩⟩
    refine W_regL (WL_pure rfl rfl (by decide) (Pu_move rfl rfl) (WL_pure rfl rfl (by decide) (Pu_move rfl rfl) (WL_pure rfl rfl (by decide) (Pu_idxS (r := 0) rfl Try.runUnderlying22 Try.sizeOf30 rfl rfl rfl (fun h hp => Rd.orig hrc h hp) (by omega)) (WL_pure rfl rfl (by decide) (Pu_loadSN (r := 0) rfl Try.isAgg30 Try.sizeOf30 rfl rfl (fun h hp => Rd.orig hrc h hp) (rfl : (callF (calls.getD x.1 default)).length = 5) (by decide) (call_at (k := x.1) hi1)) ?_))))
    rw [hcd]
    refine (WL_cons rfl rfl (by decide) (OpT_alloc (r := 501) rfl (zero_run (by kernel_rfl : (Try.prog.info? 30).bind (·.zero) = some (.agg (callF ⟨0, 0, 0, 0, 0⟩).toArray))) rfl (fun g501 => (WL_cons0 rfl rfl (OpT_storeAll (r := 501) rfl Try.sizeOf30 rfl rfl rfl rfl rfl (callF_one _) ?_)))))
    refine (WL_nil (X_then ?_))
    refine W_seq ?_
    refine W.pre (K' := [(0, _), (1, _), (2, _), (7, _), (9, _), (10, _), (36, _)]) (L' := [(0, _), (500, _), (501, _)]) ?_ ⟨rfl, ⟨rfl, ⟨rfl, ⟨rfl, ⟨rfl, ⟨rfl, ⟨rfl, trivial⟩⟩⟩⟩⟩⟩⟩ ⟨rfl, ⟨rfl, ⟨rfl, trivial⟩⟩⟩
    refine W_regL (WL_pure rfl rfl (by decide) (Pu_move rfl rfl) (WL_pure rfl rfl (by decide) (Pu_move rfl rfl) (WL_cons rfl rfl (by decide) (OpT_call 600 [0, 501] [500] rfl Try.call11 rfl rfl rfl (by decide) (by decide) (sweep_spec ga room quota (x.1 : Int) x.2 (by omega) _) (fun v45 Ps45 hR45 => ?_)))))
    obtain ⟨rfl, rfl⟩ := hR45
    have hI1 := hI.sweep (x.1 : Int)
    have hl1 := sweepA_len (x.1 : Int) x.2
    have hs1 := sweepA_two (x.1 : Int) x.2
    generalize hB1 : sweepA (x.1 : Int) x.2 = B1 at hI1 hl1 hs1
    refine (WL_nil (X_then ?_))
    refine W_seq ?_
    refine W.pre (K' := [(0, _), (1, _), (2, _), (7, _), (9, _), (10, _), (36, _)]) (L' := [(0, _), (501, _), (600, _)]) ?_ ⟨rfl, ⟨rfl, ⟨rfl, ⟨rfl, ⟨rfl, ⟨rfl, ⟨rfl, trivial⟩⟩⟩⟩⟩⟩⟩ ⟨rfl, ⟨rfl, ⟨rfl, trivial⟩⟩⟩
    refine W_regL (WL_pure rfl rfl (by decide) (Pu_move rfl rfl) (WL_cons rfl rfl (by decide) (OpT_call 700 [0, 501] [600] rfl Try.call12 rfl rfl rfl (by decide) (by decide) (all_spec ga (room) (quota) B1 (by omega) _) (fun v47 Ps47 hR47 => ?_))))
    obtain ⟨zs47, hzs47, rfl⟩ := hR47
    have hzl47 : (zs47.map (fun p : EB => p.1)).length = zs47.length := List.length_map _
    refine (WL_pure rfl rfl (by decide) (Pu_assign rfl rfl) (WL_nil (X_then ?_)))
    refine W_seq ?_
    refine W.pre (K' := [(0, _), (1, _), (2, _), (7, _), (9, _), (10, _), (11, _), (36, _)]) (L' := [(0, _), (501, _), (700, _), (701, _), (702, _)]) ?_ ⟨rfl, ⟨rfl, ⟨rfl, ⟨rfl, ⟨rfl, ⟨rfl, ⟨rfl, ⟨rfl, trivial⟩⟩⟩⟩⟩⟩⟩⟩ ⟨rfl, ⟨rfl, ⟨rfl, ⟨rfl, ⟨rfl, trivial⟩⟩⟩⟩⟩
    refine W_draw (N := 21) (by kernel_rfl) rfl [(0, _), (501, _)] ⟨rfl, ⟨rfl, trivial⟩⟩ ?_
    refine (AH_take 0 rfl (by kernel_rfl) (by kernel_rfl) (by kernel_rfl) rfl rfl (by decide) (Pu_move rfl rfl) (AH_take 1 rfl (by kernel_rfl) (by kernel_rfl) (by kernel_rfl) rfl rfl (by decide) (Pu_fieldAddrB (off := 1) rfl rfl (by kernel_rfl)) (AH_take 2 rfl (by kernel_rfl) (by kernel_rfl) (by kernel_rfl) rfl rfl (by decide) (Pu_loadB (r := 501) rfl Try.isAgg3 rfl rfl rfl) (AH_take 4 rfl (by kernel_rfl) (by kernel_rfl) (by kernel_rfl) rfl rfl (by decide) (Pu_fieldAddrB (off := 2) rfl rfl (by kernel_rfl)) (AH_take 5 rfl (by kernel_rfl) (by kernel_rfl) (by kernel_rfl) rfl rfl (by decide) (Pu_loadB (r := 501) rfl Try.isAgg3 rfl rfl rfl) (AH_take 8 rfl (by kernel_rfl) (by kernel_rfl) (by kernel_rfl) rfl rfl (by decide) (Pu_fieldAddrB (off := 3) rfl rfl (by kernel_rfl)) (AH_take 9 rfl (by kernel_rfl) (by kernel_rfl) (by kernel_rfl) rfl rfl (by decide) (Pu_loadB (r := 501) rfl Try.isAgg3 rfl rfl rfl) (AH_take 11 rfl (by kernel_rfl) (by kernel_rfl) (by kernel_rfl) rfl rfl (by decide) (Pu_move rfl rfl) (AH_take 12 rfl (by kernel_rfl) (by kernel_rfl) (by kernel_rfl) rfl rfl (by decide) (Pu_bin rfl rfl rfl (run_add _ _ _ _ _ (by omega))) (AH_take 13 rfl (by kernel_rfl) (by kernel_rfl) (by kernel_rfl) rfl rfl (by decide) (Pu_fieldAddrB (off := 4) rfl rfl (by kernel_rfl)) (AH_take 14 rfl (by kernel_rfl) (by kernel_rfl) (by kernel_rfl) rfl rfl (by decide) (Pu_loadB (r := 501) rfl Try.isAgg3 rfl rfl rfl) (AH_take 18 rfl (by kernel_rfl) (by kernel_rfl) (by kernel_rfl) rfl rfl (by decide) (Pu_move rfl rfl) (AH_ready [3] (by kernel_rfl) (by decide) ?_)))))))))))))
    refine AHs_cons rfl rfl rfl (by decide) (OpT_call 800 [0, 501, 700, 701, 702] [] rfl Try.call14 rfl rfl rfl (by decide) (by decide) (key_spec c.key hck.1 hck.2 _) (fun v51 Ps51 hR51 => ?_)) ?_
    ·
      obtain ⟨rfl, rfl⟩ := hR51
      refine ⟨⟨rfl, ⟨rfl, trivial⟩⟩, ?_⟩
      refine (AH_ready [6] (by kernel_rfl) (by decide) ?_)
      refine AHs_cons rfl rfl rfl (by decide) (OpT_call 900 [0, 501, 700, 701, 702] [] rfl Try.call9 rfl rfl rfl (by decide) (by decide) (within_spec c.size 150 (by omega) (by omega) _) (fun v54 Ps54 hR54 => ?_)) ?_
      ·
        obtain ⟨rfl, rfl⟩ := hR54
        refine ⟨⟨rfl, ⟨rfl, trivial⟩⟩, ?_⟩
        obtain ⟨n, hn, hn2⟩ : ∃ n : Nat, c.size % 150 = (n : Int) ∧ n < 150 := ⟨(c.size % 150).toNat, by omega, by omega⟩
        rw [hn]
        refine (AH_ready [7, 10] (by kernel_rfl) (by decide) ?_)
        refine AHs_cons rfl rfl rfl (by decide) (OpT_make (r := 901) (m := n) rfl Try.underlying38 TI.hi5 TI.hz5 TI.hs5 rfl rfl (by rw [TI.hby5]; omega) (by unfold maxLen; omega) ((made_one _ _).trans (made_bytes n)) (fun v55 => ?_)) ?_
        ·
          refine ⟨⟨rfl, ⟨rfl, trivial⟩⟩, ?_⟩
          refine AH_fact (r := 901) rfl (fun h hp => rd_one (rowP_rd hp)) (fun ho55 => ?_)
          refine (AH_ready [10] (by kernel_rfl) (by decide) ?_)
          refine AHs_cons rfl rfl rfl (by decide) (OpT_call 1000 [0, 501, 700, 701, 702, 901] [] rfl Try.call9 rfl rfl rfl (by decide) (by decide) (within_spec c.src 4 (by omega) (by omega) _) (fun v58 Ps58 hR58 => ?_)) ?_
          ·
            obtain ⟨rfl, rfl⟩ := hR58
            refine ⟨⟨rfl, ⟨rfl, trivial⟩⟩, ?_⟩
            refine (AH_ready [15] (by kernel_rfl) (by decide) ?_)
            refine AHs_cons rfl rfl rfl (by decide) (OpT_call 1100 [0, 501, 700, 701, 702, 901] [] rfl Try.call9 rfl rfl rfl (by decide) (by decide) (within_spec c.dur 20 (by omega) (by omega) _) (fun v63 Ps63 hR63 => ?_)) ?_
            ·
              obtain ⟨rfl, rfl⟩ := hR63
              refine ⟨⟨rfl, ⟨rfl, trivial⟩⟩, ?_⟩
              refine (AH_take 16 rfl (by kernel_rfl) (by kernel_rfl) (by kernel_rfl) rfl rfl (by decide) (Pu_bin rfl rfl rfl (run_add _ _ _ _ _ (by omega))) (AH_take 17 rfl (by kernel_rfl) (by kernel_rfl) (by kernel_rfl) rfl rfl (by decide) (Pu_bk (keyA_length c.key) ho55 rfl rfl (.k (keyA_length c.key) (.d ho55 (.s (.e (.nil _)))))) (AH_ready [19] (by kernel_rfl) (by decide) ?_)))
              refine AHs_cons rfl rfl rfl (by decide) (OpT_call 1200 [0, 501, 701, 702, 901] [700] rfl Try.call13 rfl rfl rfl (by decide) (by decide) (put_spec ga room quota (x.1 : Int) B1 (by omega) (mkB (keyA c.key) v55 (c.src % 4) ((x.1 : Int) + 1 + c.dur % 20) (keyA_length c.key) ho55) (List.replicate n 0) _ (rd_star 4 rfl (fun h hp => rdP_cast (rowP_rd hp) rfl (List.length_replicate).symm))) (fun v67 Ps67 hR67 => ?_)) ?_
              ·
                obtain ⟨rfl, rfl⟩ := hR67
                refine ⟨⟨rfl, ⟨rfl, trivial⟩⟩, ?_⟩
                obtain ⟨e, B2, hp, hb2, hl2, he⟩ := bnd_put (now := (x.1 : Int)) (b := ⟨keyA c.key, List.replicate n 0, c.src % 4, (x.1 : Int) + 1 + c.dur % 20⟩) hI1 (by dsimp only; omega) (by dsimp only; omega) (by simp; omega) hs1
                rw [toBk_mk, hp]
                refine (AH_take 20 rfl (by kernel_rfl) (by kernel_rfl) (by kernel_rfl) rfl rfl (by decide) (Pu_assign rfl rfl) (AH_done (by kernel_rfl) (X_then ?_)))
                refine W_seq ?_
                refine W_seq ?_
                refine W.pre (K' := [(0, _), (1, _), (2, _), (7, _), (9, _), (10, _), (11, _), (12, _), (36, _)]) (L' := [(0, _), (501, _), (701, _), (702, _), (901, _), (1200, _)]) ?_ ⟨rfl, ⟨rfl, ⟨rfl, ⟨rfl, ⟨rfl, ⟨rfl, ⟨rfl, ⟨rfl, ⟨rfl, trivial⟩⟩⟩⟩⟩⟩⟩⟩⟩ ⟨rfl, ⟨rfl, ⟨rfl, ⟨rfl, ⟨rfl, ⟨rfl, trivial⟩⟩⟩⟩⟩⟩
                rcases Bool.eq_false_or_eq_true (!(decide (e = 0))) with hsp12 | hsp12
                ·
                  have hne : e ≠ 0 := by simpa using hsp12
                  have he2 : (e = 15 ∨ e = 16) ∧ B2 = B1 := by rcases he with h | h; exact absurd h hne; exact h
                  obtain ⟨he3, rfl⟩ := he2
                  refine W_regL (WL_pure rfl rfl (by decide) (Pu_move rfl rfl) (WL_pure rfl rfl (by decide) (Pu_bin rfl rfl rfl (run_neq _ _ _ _ _ _)) (WL_pure rfl rfl (by decide) (Pu_move rfl rfl) (WL_gPT rfl rfl rfl (by rw [hsp12]; rfl) rfl (by decide) (Pu_move rfl rfl) (WL_gT rfl rfl rfl (by rw [hsp12]; rfl) rfl (by decide) (OpT_call 1300 [0, 501, 701, 702, 901] [1200] rfl Try.call12 rfl rfl rfl (by decide) (by decide) (all_spec ga (room) (quota) B2 (by omega) _) (fun v72 Ps72 hR72 => ?_)))))))
                  obtain ⟨zs72, hzs72, rfl⟩ := hR72
                  have hzl72 : (zs72.map (fun p : EB => p.1)).length = zs72.length := List.length_map _
                  refine (WL_gPT rfl rfl rfl (by rw [hsp12]; rfl) rfl (by decide) (Pu_move rfl rfl) (WL_gT rfl rfl rfl (by rw [hsp12]; rfl) rfl (by decide) (OpT_call 1400 [0, 501, 701, 702, 901, 1300, 1301, 1302] [] rfl Try.call15 rfl rfl rfl (by decide) (by decide) (same_spec v72 v47 zs72 zs47 (by rw [hzs72, hzs47]) (by have := congrArg List.length hzs72; rw [List.length_map] at this; omega) _ (rd_star 6 rfl (fun _ hp => rowP_rd hp)) (fun h hs => star_dat 7 rfl hs) (rd_star 2 rfl (fun _ hp => rowP_rd hp)) (fun h hs => star_dat 3 rfl hs)) (fun v74 Ps74 hR74 => ?_))))
                  obtain ⟨rfl, rfl⟩ := hR74
                  refine (WL_gPT rfl rfl rfl (by rw [hsp12]; rfl) rfl (by decide) (Pu_un rfl rfl (run_not _)) (WL_pure rfl rfl (by decide) (Pu_pickT rfl rfl hsp12 rfl) (WL_pure rfl rfl (by decide) (Pu_move rfl rfl) (WL_gPT rfl rfl rfl rfl rfl (by decide) (Pu_move rfl rfl) (WL_gPT rfl rfl rfl rfl rfl (by decide) (Pu_bin rfl rfl rfl (run_neq _ _ _ _ _ _)) (WL_gPT rfl rfl rfl rfl rfl (by decide) (Pu_move rfl rfl) (WL_gPT rfl rfl rfl (by simp [hne]) rfl (by decide) (Pu_move rfl rfl) (WL_gPT rfl rfl rfl (by simp [hne]) rfl (by decide) (Pu_bin rfl rfl rfl (run_neq _ _ _ _ _ _)) (WL_gPT rfl rfl rfl rfl rfl (by decide) (Pu_pickT rfl rfl (by simp [hne]) rfl) (WL_gPT rfl rfl rfl rfl rfl (by decide) (Pu_move rfl rfl) (WL_guardP rfl rfl rfl rfl (by decide) (fun hb => (Pu_move rfl rfl)) (WL_guardP rfl rfl rfl rfl (by decide) (fun hb => (Pu_bin rfl (ev_gv rfl hb) rfl (run_neq _ _ _ _ _ _))) (WL_gPT rfl rfl rfl rfl rfl (by decide) (Pu_and rfl rfl rfl) (WL_pure rfl rfl (by decide) (Pu_pickF rfl rfl rfl rfl) (WL_nil (X_then ?_))))))))))))))))
                  refine W_false rfl ((by first | rfl | (rcases he3 with rfl | rfl <;> rfl))) ?_
                  refine W_skip (X_then ?_)
                  refine W_seq ?_
                  refine W.pre (K' := [(0, _), (1, _), (2, _), (7, _), (9, _), (10, _), (11, _), (12, _), (36, _), (88, _)]) (L' := [(0, _), (501, _), (701, _), (702, _), (901, _), (1300, _), (1301, _), (1302, _)]) ?_ ⟨rfl, ⟨rfl, ⟨rfl, ⟨rfl, ⟨rfl, ⟨rfl, ⟨rfl, ⟨rfl, ⟨rfl, ⟨rfl, trivial⟩⟩⟩⟩⟩⟩⟩⟩⟩⟩ ⟨rfl, ⟨rfl, ⟨rfl, ⟨rfl, ⟨rfl, ⟨rfl, ⟨rfl, ⟨rfl, trivial⟩⟩⟩⟩⟩⟩⟩⟩
                  refine W_regL (WL_pure rfl rfl (by decide) (Pu_assign rfl rfl) (WL_nil (X_then ?_)))
                  refine W_seq ?_
                  refine W_seq ?_
                  refine W.pre (K' := [(0, _), (1, _), (2, _), (7, _), (9, _), (10, _), (11, _), (12, _), (13, _), (36, _), (88, _)]) (L' := [(0, _), (501, _), (701, _), (702, _), (901, _), (1300, _), (1301, _), (1302, _)]) ?_ ⟨rfl, ⟨rfl, ⟨rfl, ⟨rfl, ⟨rfl, ⟨rfl, ⟨rfl, ⟨rfl, ⟨rfl, ⟨rfl, ⟨rfl, trivial⟩⟩⟩⟩⟩⟩⟩⟩⟩⟩⟩ ⟨rfl, ⟨rfl, ⟨rfl, ⟨rfl, ⟨rfl, ⟨rfl, ⟨rfl, ⟨rfl, trivial⟩⟩⟩⟩⟩⟩⟩⟩
                  refine W_regL (WL_pure rfl rfl (by decide) (Pu_assign rfl rfl) (WL_nil (X_then ?_)))
                  refine W_block ?_
                  refine W_loop (α := Nat) (fun y => [(0, .int .i64 room), (1, .int .i64 quota), (2, vc), (7, .pointer (some ⟨ga, 0, none⟩)), (9, .int .i64 (x.1 : Int)), (13, .int .i64 (usum B2 y : Int)), (14, .int .i64 (y : Int))]) (fun y => [(0, orig Wo), (1300, areaP ga room quota B2)]) (fun y => y ≤ 4) (fun y => 4 - y) (0) (by omega) ⟨rfl, ⟨rfl, ⟨rfl, ⟨rfl, ⟨rfl, ⟨rfl, ⟨rfl, trivial⟩⟩⟩⟩⟩⟩⟩ ⟨rfl, ⟨rfl, trivial⟩⟩ (fun y hy => ?_)
                  have hus := usum_le B2 y
                  have hus2 := hb2.used (y : Int)
                  have hut := hb2.tot
                  have hus3 : y * totA B2 ≤ 4 * totA B2 := Nat.mul_le_mul_right _ hy
                  refine W_seq ?_
                  refine W_seq ?_
                  refine W.pre (K' := [(0, _), (1, _), (2, _), (7, _), (9, _), (13, _), (14, _)]) (L' := [(0, _), (1300, _)]) ?_ ⟨rfl, ⟨rfl, ⟨rfl, ⟨rfl, ⟨rfl, ⟨rfl, ⟨rfl, trivial⟩⟩⟩⟩⟩⟩⟩ ⟨rfl, ⟨rfl, trivial⟩⟩
                  refine W_regL (WL_pure rfl rfl (by decide) (Pu_move rfl rfl) (WL_pure rfl rfl (by decide) (Pu_bin rfl rfl rfl (run_lss _ _ _ _ _ _)) (WL_nil (X_then ?_))))
                  refine W_cond rfl (fun hc90 => ?_) (fun hc90 => ?_)
                  ·
                    have hy4 : y < 4 := by have := of_decide_eq_true hc90; omega
                    refine W_skip (X_then ?_)
                    refine W_seq ?_
                    refine W_block ?_
                    refine W_seq ?_
                    refine W_seq ?_
                    refine W.pre (K' := [(0, _), (1, _), (2, _), (7, _), (9, _), (13, _), (14, _), (90, _)]) (L' := [(0, _), (1300, _)]) ?_ ⟨rfl, ⟨rfl, ⟨rfl, ⟨rfl, ⟨rfl, ⟨rfl, ⟨rfl, ⟨rfl, trivial⟩⟩⟩⟩⟩⟩⟩⟩ ⟨rfl, ⟨rfl, trivial⟩⟩
                    refine W_regL (WL_pure rfl rfl (by decide) (Pu_move rfl rfl) (WL_pure rfl rfl (by decide) (Pu_move rfl rfl) (WL_cons rfl rfl (by decide) (OpT_call 1500 [0] [1300] rfl Try.call16 rfl rfl rfl (by decide) (by decide) (used_spec ga room quota (y : Int) B2 _) (fun v95 Ps95 hR95 => ?_)))))
                    obtain ⟨rfl, rfl⟩ := hR95
                    refine (WL_pure rfl rfl (by decide) (Pu_move rfl rfl) (WL_pure rfl rfl (by decide) (Pu_bin rfl rfl rfl (run_gtr _ _ _ _ _ _)) (WL_nil (X_then ?_))))
                    refine W_false rfl ((decide_eq_false (by omega))) ?_
                    refine W_skip (X_then ?_)
                    refine W.pre (K' := [(0, _), (1, _), (2, _), (7, _), (9, _), (13, _), (14, _), (90, _), (97, _)]) (L' := [(0, _), (1500, _)]) ?_ ⟨rfl, ⟨rfl, ⟨rfl, ⟨rfl, ⟨rfl, ⟨rfl, ⟨rfl, ⟨rfl, ⟨rfl, trivial⟩⟩⟩⟩⟩⟩⟩⟩⟩ ⟨rfl, ⟨rfl, trivial⟩⟩
                    refine W_regL (WL_pure rfl rfl (by decide) (Pu_move rfl rfl) (WL_pure rfl rfl (by decide) (Pu_move rfl rfl) (WL_pure rfl rfl (by decide) (Pu_move rfl rfl) (WL_cons rfl rfl (by decide) (OpT_call 1600 [0] [1500] rfl Try.call16 rfl rfl rfl (by decide) (by decide) (used_spec ga room quota (y : Int) B2 _) (fun v101 Ps101 hR101 => ?_))))))
                    obtain ⟨rfl, rfl⟩ := hR101
                    refine (WL_pure rfl rfl (by decide) (Pu_bin rfl rfl rfl (run_add _ _ _ _ _ (by omega))) (WL_pure rfl rfl (by decide) (Pu_assign rfl rfl) (WL_nil (X_block (X_then ?_)))))
                    refine W.pre (K' := [(0, _), (1, _), (2, _), (7, _), (9, _), (13, _), (14, _), (90, _), (97, _)]) (L' := [(0, _), (1600, _)]) ?_ ⟨rfl, ⟨rfl, ⟨rfl, ⟨rfl, ⟨rfl, ⟨rfl, ⟨rfl, ⟨rfl, ⟨rfl, trivial⟩⟩⟩⟩⟩⟩⟩⟩⟩ ⟨rfl, ⟨rfl, trivial⟩⟩
                    refine W_regL (WL_pure rfl rfl (by decide) (Pu_move rfl rfl) (WL_pure rfl rfl (by decide) (Pu_bin rfl rfl rfl (run_add _ _ _ _ _ (by omega))) (WL_pure rfl rfl (by decide) (Pu_assign rfl rfl) (WL_nil ?_))))
                    refine X_ren 1600 1300 rfl ?_
                    exact X_round (y + 1) (by omega) (by omega) ⟨rfl, rfl, rfl, rfl, rfl, lookV_eq rfl (int_eq (by show _ = (((usum B2 y + usedA (y : Int) B2 : Nat)) : Int); omega)), rfl, trivial⟩ ⟨rfl, rfl, trivial⟩
                  ·
                    obtain rfl : y = 4 := by have := of_decide_eq_false hc90; omega
                    have hall := usum_all hb2.src
                    rw [hall]
                    refine W_exit (X_then_exit (X_then_exit (X_block_exit (X_then ?_))))
                    refine W_seq ?_
                    refine W.pre (K' := [(0, _), (1, _), (2, _), (7, _), (9, _), (13, _), (14, _), (90, _)]) (L' := [(0, _), (1300, _)]) ?_ ⟨rfl, ⟨rfl, ⟨rfl, ⟨rfl, ⟨rfl, ⟨rfl, ⟨rfl, ⟨rfl, trivial⟩⟩⟩⟩⟩⟩⟩⟩ ⟨rfl, ⟨rfl, trivial⟩⟩
                    refine W_regL (WL_pure rfl rfl (by decide) (Pu_move rfl rfl) (WL_pure rfl rfl (by decide) (Pu_move rfl rfl) (WL_cons rfl rfl (by decide) (OpT_call 1500 [0] [1300] rfl Try.call17 rfl rfl rfl (by decide) (by decide) (total_spec ga room quota B2 _) (fun v105 Ps105 hR105 => ?_)))))
                    obtain ⟨rfl, rfl⟩ := hR105
                    refine (WL_pure rfl rfl (by decide) (Pu_bin rfl rfl rfl (run_neq _ _ _ _ _ _)) (WL_pure rfl rfl (by decide) (Pu_move rfl rfl) (WL_guardP rfl rfl rfl rfl (by decide) (fun hb => (Pu_move rfl rfl)) (WL_guardP rfl rfl rfl rfl (by decide) (fun hb => (Pu_move rfl rfl)) (WL_guardP rfl rfl rfl rfl (by decide) (fun hb => (Pu_bin rfl (ev_gv rfl hb) (ev_gv rfl hb) (run_gtr _ _ _ _ _ _))) (WL_pure rfl rfl (by decide) (Pu_or rfl rfl rfl) (WL_nil (X_then ?_))))))))
                    refine W_false rfl ((by simp; omega)) ?_
                    refine W_skip (X_block (X_then ?_))
                    refine W.pre (K' := [(0, _), (1, _), (2, _), (7, _), (9, _), (13, _), (14, _), (90, _), (111, _)]) (L' := [(0, _), (1500, _)]) ?_ ⟨rfl, ⟨rfl, ⟨rfl, ⟨rfl, ⟨rfl, ⟨rfl, ⟨rfl, ⟨rfl, ⟨rfl, trivial⟩⟩⟩⟩⟩⟩⟩⟩⟩ ⟨rfl, ⟨rfl, trivial⟩⟩
                    refine W_regL (WL_pure rfl rfl (by decide) (Pu_move rfl rfl) (WL_pure rfl rfl (by decide) (Pu_bin rfl rfl rfl (run_add _ _ _ _ _ (by omega))) (WL_pure rfl rfl (by decide) (Pu_assign rfl rfl) (WL_nil ?_))))
                    refine X_ren 1500 500 rfl ?_
                    exact X_round (x.1 + 1, B2) ⟨hb2, by dsimp only; omega, by dsimp only; omega⟩ (by show 80 - (x.1 + 1) < 80 - x.1; omega) ⟨rfl, rfl, rfl, rfl, rfl, trivial⟩ ⟨rfl, rfl, trivial⟩
                ·
                  have he0 : e = 0 := by simpa using hsp12
                  subst he0
                  refine W_regL (WL_pure rfl rfl (by decide) (Pu_move rfl rfl) (WL_pure rfl rfl (by decide) (Pu_bin rfl rfl rfl (run_neq _ _ _ _ _ _)) (WL_pure rfl rfl (by decide) (Pu_move rfl rfl) (WL_gF rfl rfl rfl (by rw [hsp12]; rfl) rfl (by decide) (WL_gF rfl rfl rfl (by rw [hsp12]; rfl) rfl (by decide) (WL_gF rfl rfl rfl (by rw [hsp12]; rfl) rfl (by decide) (WL_gF rfl rfl rfl (by rw [hsp12]; rfl) rfl (by decide) (WL_gF rfl rfl rfl (by rw [hsp12]; rfl) rfl (by decide) (WL_pure rfl rfl (by decide) (Pu_pickF rfl rfl hsp12 rfl) (WL_pure rfl rfl (by decide) (Pu_move rfl rfl) (WL_gPT rfl rfl rfl rfl rfl (by decide) (Pu_move rfl rfl) (WL_gPT rfl rfl rfl rfl rfl (by decide) (Pu_bin rfl rfl rfl (run_neq _ _ _ _ _ _)) (WL_gPT rfl rfl rfl rfl rfl (by decide) (Pu_move rfl rfl) (WL_gF rfl rfl rfl rfl rfl (by decide) (WL_gF rfl rfl rfl rfl rfl (by decide) (WL_gPT rfl rfl rfl rfl rfl (by decide) (Pu_pickF rfl rfl rfl rfl) (WL_gPT rfl rfl rfl rfl rfl (by decide) (Pu_move rfl rfl) (WL_gF rfl rfl rfl rfl rfl (by decide) (WL_gF rfl rfl rfl rfl rfl (by decide) (WL_gPT rfl rfl rfl rfl rfl (by decide) (Pu_pickF rfl rfl rfl rfl) (WL_pure rfl rfl (by decide) (Pu_pickF rfl rfl rfl rfl) (WL_nil (X_then ?_)))))))))))))))))))))))
                  refine W_false rfl ((by first | rfl | (rcases he3 with rfl | rfl <;> rfl))) ?_
                  refine W_skip (X_then ?_)
                  refine W_seq ?_
                  refine W.pre (K' := [(0, _), (1, _), (2, _), (7, _), (9, _), (10, _), (11, _), (12, _), (36, _), (88, _)]) (L' := [(0, _), (501, _), (701, _), (702, _), (901, _), (1200, _)]) ?_ ⟨rfl, ⟨rfl, ⟨rfl, ⟨rfl, ⟨rfl, ⟨rfl, ⟨rfl, ⟨rfl, ⟨rfl, ⟨rfl, trivial⟩⟩⟩⟩⟩⟩⟩⟩⟩⟩ ⟨rfl, ⟨rfl, ⟨rfl, ⟨rfl, ⟨rfl, ⟨rfl, trivial⟩⟩⟩⟩⟩⟩
                  refine W_regL (WL_pure rfl rfl (by decide) (Pu_assign rfl rfl) (WL_nil (X_then ?_)))
                  refine W_seq ?_
                  refine W_seq ?_
                  refine W.pre (K' := [(0, _), (1, _), (2, _), (7, _), (9, _), (10, _), (11, _), (12, _), (13, _), (36, _), (88, _)]) (L' := [(0, _), (501, _), (701, _), (702, _), (901, _), (1200, _)]) ?_ ⟨rfl, ⟨rfl, ⟨rfl, ⟨rfl, ⟨rfl, ⟨rfl, ⟨rfl, ⟨rfl, ⟨rfl, ⟨rfl, ⟨rfl, trivial⟩⟩⟩⟩⟩⟩⟩⟩⟩⟩⟩ ⟨rfl, ⟨rfl, ⟨rfl, ⟨rfl, ⟨rfl, ⟨rfl, trivial⟩⟩⟩⟩⟩⟩
                  refine W_regL (WL_pure rfl rfl (by decide) (Pu_assign rfl rfl) (WL_nil (X_then ?_)))
                  refine W_block ?_
                  refine W_loop (α := Nat) (fun y => [(0, .int .i64 room), (1, .int .i64 quota), (2, vc), (7, .pointer (some ⟨ga, 0, none⟩)), (9, .int .i64 (x.1 : Int)), (13, .int .i64 (usum B2 y : Int)), (14, .int .i64 (y : Int))]) (fun y => [(0, orig Wo), (1200, areaP ga room quota B2)]) (fun y => y ≤ 4) (fun y => 4 - y) (0) (by omega) ⟨rfl, ⟨rfl, ⟨rfl, ⟨rfl, ⟨rfl, ⟨rfl, ⟨rfl, trivial⟩⟩⟩⟩⟩⟩⟩ ⟨rfl, ⟨rfl, trivial⟩⟩ (fun y hy => ?_)
                  have hus := usum_le B2 y
                  have hus2 := hb2.used (y : Int)
                  have hut := hb2.tot
                  have hus3 : y * totA B2 ≤ 4 * totA B2 := Nat.mul_le_mul_right _ hy
                  refine W_seq ?_
                  refine W_seq ?_
                  refine W.pre (K' := [(0, _), (1, _), (2, _), (7, _), (9, _), (13, _), (14, _)]) (L' := [(0, _), (1200, _)]) ?_ ⟨rfl, ⟨rfl, ⟨rfl, ⟨rfl, ⟨rfl, ⟨rfl, ⟨rfl, trivial⟩⟩⟩⟩⟩⟩⟩ ⟨rfl, ⟨rfl, trivial⟩⟩
                  refine W_regL (WL_pure rfl rfl (by decide) (Pu_move rfl rfl) (WL_pure rfl rfl (by decide) (Pu_bin rfl rfl rfl (run_lss _ _ _ _ _ _)) (WL_nil (X_then ?_))))
                  refine W_cond rfl (fun hc90 => ?_) (fun hc90 => ?_)
                  ·
                    have hy4 : y < 4 := by have := of_decide_eq_true hc90; omega
                    refine W_skip (X_then ?_)
                    refine W_seq ?_
                    refine W_block ?_
                    refine W_seq ?_
                    refine W_seq ?_
                    refine W.pre (K' := [(0, _), (1, _), (2, _), (7, _), (9, _), (13, _), (14, _), (90, _)]) (L' := [(0, _), (1200, _)]) ?_ ⟨rfl, ⟨rfl, ⟨rfl, ⟨rfl, ⟨rfl, ⟨rfl, ⟨rfl, ⟨rfl, trivial⟩⟩⟩⟩⟩⟩⟩⟩ ⟨rfl, ⟨rfl, trivial⟩⟩
                    refine W_regL (WL_pure rfl rfl (by decide) (Pu_move rfl rfl) (WL_pure rfl rfl (by decide) (Pu_move rfl rfl) (WL_cons rfl rfl (by decide) (OpT_call 1300 [0] [1200] rfl Try.call16 rfl rfl rfl (by decide) (by decide) (used_spec ga room quota (y : Int) B2 _) (fun v95 Ps95 hR95 => ?_)))))
                    obtain ⟨rfl, rfl⟩ := hR95
                    refine (WL_pure rfl rfl (by decide) (Pu_move rfl rfl) (WL_pure rfl rfl (by decide) (Pu_bin rfl rfl rfl (run_gtr _ _ _ _ _ _)) (WL_nil (X_then ?_))))
                    refine W_false rfl ((decide_eq_false (by omega))) ?_
                    refine W_skip (X_then ?_)
                    refine W.pre (K' := [(0, _), (1, _), (2, _), (7, _), (9, _), (13, _), (14, _), (90, _), (97, _)]) (L' := [(0, _), (1300, _)]) ?_ ⟨rfl, ⟨rfl, ⟨rfl, ⟨rfl, ⟨rfl, ⟨rfl, ⟨rfl, ⟨rfl, ⟨rfl, trivial⟩⟩⟩⟩⟩⟩⟩⟩⟩ ⟨rfl, ⟨rfl, trivial⟩⟩
                    refine W_regL (WL_pure rfl rfl (by decide) (Pu_move rfl rfl) (WL_pure rfl rfl (by decide) (Pu_move rfl rfl) (WL_pure rfl rfl (by decide) (Pu_move rfl rfl) (WL_cons rfl rfl (by decide) (OpT_call 1400 [0] [1300] rfl Try.call16 rfl rfl rfl (by decide) (by decide) (used_spec ga room quota (y : Int) B2 _) (fun v101 Ps101 hR101 => ?_))))))
                    obtain ⟨rfl, rfl⟩ := hR101
                    refine (WL_pure rfl rfl (by decide) (Pu_bin rfl rfl rfl (run_add _ _ _ _ _ (by omega))) (WL_pure rfl rfl (by decide) (Pu_assign rfl rfl) (WL_nil (X_block (X_then ?_)))))
                    refine W.pre (K' := [(0, _), (1, _), (2, _), (7, _), (9, _), (13, _), (14, _), (90, _), (97, _)]) (L' := [(0, _), (1400, _)]) ?_ ⟨rfl, ⟨rfl, ⟨rfl, ⟨rfl, ⟨rfl, ⟨rfl, ⟨rfl, ⟨rfl, ⟨rfl, trivial⟩⟩⟩⟩⟩⟩⟩⟩⟩ ⟨rfl, ⟨rfl, trivial⟩⟩
                    refine W_regL (WL_pure rfl rfl (by decide) (Pu_move rfl rfl) (WL_pure rfl rfl (by decide) (Pu_bin rfl rfl rfl (run_add _ _ _ _ _ (by omega))) (WL_pure rfl rfl (by decide) (Pu_assign rfl rfl) (WL_nil ?_))))
                    refine X_ren 1400 1200 rfl ?_
                    exact X_round (y + 1) (by omega) (by omega) ⟨rfl, rfl, rfl, rfl, rfl, lookV_eq rfl (int_eq (by show _ = (((usum B2 y + usedA (y : Int) B2 : Nat)) : Int); omega)), rfl, trivial⟩ ⟨rfl, rfl, trivial⟩
                  ·
                    obtain rfl : y = 4 := by have := of_decide_eq_false hc90; omega
                    have hall := usum_all hb2.src
                    rw [hall]
                    refine W_exit (X_then_exit (X_then_exit (X_block_exit (X_then ?_))))
                    refine W_seq ?_
                    refine W.pre (K' := [(0, _), (1, _), (2, _), (7, _), (9, _), (13, _), (14, _), (90, _)]) (L' := [(0, _), (1200, _)]) ?_ ⟨rfl, ⟨rfl, ⟨rfl, ⟨rfl, ⟨rfl, ⟨rfl, ⟨rfl, ⟨rfl, trivial⟩⟩⟩⟩⟩⟩⟩⟩ ⟨rfl, ⟨rfl, trivial⟩⟩
                    refine W_regL (WL_pure rfl rfl (by decide) (Pu_move rfl rfl) (WL_pure rfl rfl (by decide) (Pu_move rfl rfl) (WL_cons rfl rfl (by decide) (OpT_call 1300 [0] [1200] rfl Try.call17 rfl rfl rfl (by decide) (by decide) (total_spec ga room quota B2 _) (fun v105 Ps105 hR105 => ?_)))))
                    obtain ⟨rfl, rfl⟩ := hR105
                    refine (WL_pure rfl rfl (by decide) (Pu_bin rfl rfl rfl (run_neq _ _ _ _ _ _)) (WL_pure rfl rfl (by decide) (Pu_move rfl rfl) (WL_guardP rfl rfl rfl rfl (by decide) (fun hb => (Pu_move rfl rfl)) (WL_guardP rfl rfl rfl rfl (by decide) (fun hb => (Pu_move rfl rfl)) (WL_guardP rfl rfl rfl rfl (by decide) (fun hb => (Pu_bin rfl (ev_gv rfl hb) (ev_gv rfl hb) (run_gtr _ _ _ _ _ _))) (WL_pure rfl rfl (by decide) (Pu_or rfl rfl rfl) (WL_nil (X_then ?_))))))))
                    refine W_false rfl ((by simp; omega)) ?_
                    refine W_skip (X_block (X_then ?_))
                    refine W.pre (K' := [(0, _), (1, _), (2, _), (7, _), (9, _), (13, _), (14, _), (90, _), (111, _)]) (L' := [(0, _), (1300, _)]) ?_ ⟨rfl, ⟨rfl, ⟨rfl, ⟨rfl, ⟨rfl, ⟨rfl, ⟨rfl, ⟨rfl, ⟨rfl, trivial⟩⟩⟩⟩⟩⟩⟩⟩⟩ ⟨rfl, ⟨rfl, trivial⟩⟩
                    refine W_regL (WL_pure rfl rfl (by decide) (Pu_move rfl rfl) (WL_pure rfl rfl (by decide) (Pu_bin rfl rfl rfl (run_add _ _ _ _ _ (by omega))) (WL_pure rfl rfl (by decide) (Pu_assign rfl rfl) (WL_nil ?_))))
                    refine X_ren 1300 500 rfl ?_
                    exact X_round (x.1 + 1, B2) ⟨hb2, by dsimp only; omega, by dsimp only; omega⟩ (by show 80 - (x.1 + 1) < 80 - x.1; omega) ⟨rfl, rfl, rfl, rfl, rfl, trivial⟩ ⟨rfl, rfl, trivial⟩
              exact AHs_nil
            exact AHs_nil
          exact AHs_nil
        refine AHs_cons rfl rfl rfl (by decide) (OpT_call 1000 [0, 501, 700, 701, 702] [] rfl Try.call9 rfl rfl rfl (by decide) (by decide) (within_spec c.src 4 (by omega) (by omega) _) (fun v58 Ps58 hR58 => ?_)) ?_
        ·
          obtain ⟨rfl, rfl⟩ := hR58
          refine ⟨⟨rfl, ⟨rfl, trivial⟩⟩, ?_⟩
          refine (AH_ready [7, 15] (by kernel_rfl) (by decide) ?_)
          refine AHs_cons rfl rfl rfl (by decide) (OpT_make (r := 1001) (m := n) rfl Try.underlying38 TI.hi5 TI.hz5 TI.hs5 rfl rfl (by rw [TI.hby5]; omega) (by unfold maxLen; omega) ((made_one _ _).trans (made_bytes n)) (fun v55 => ?_)) ?_
          ·
            refine ⟨⟨rfl, ⟨rfl, trivial⟩⟩, ?_⟩
            refine AH_fact (r := 1001) rfl (fun h hp => rd_one (rowP_rd hp)) (fun ho55 => ?_)
            refine (AH_ready [15] (by kernel_rfl) (by decide) ?_)
            refine AHs_cons rfl rfl rfl (by decide) (OpT_call 1100 [0, 501, 700, 701, 702, 1001] [] rfl Try.call9 rfl rfl rfl (by decide) (by decide) (within_spec c.dur 20 (by omega) (by omega) _) (fun v63 Ps63 hR63 => ?_)) ?_
            ·
              obtain ⟨rfl, rfl⟩ := hR63
              refine ⟨⟨rfl, ⟨rfl, trivial⟩⟩, ?_⟩
              refine (AH_take 16 rfl (by kernel_rfl) (by kernel_rfl) (by kernel_rfl) rfl rfl (by decide) (Pu_bin rfl rfl rfl (run_add _ _ _ _ _ (by omega))) (AH_take 17 rfl (by kernel_rfl) (by kernel_rfl) (by kernel_rfl) rfl rfl (by decide) (Pu_bk (keyA_length c.key) ho55 rfl rfl (.k (keyA_length c.key) (.d ho55 (.s (.e (.nil _)))))) (AH_ready [19] (by kernel_rfl) (by decide) ?_)))
              refine AHs_cons rfl rfl rfl (by decide) (OpT_call 1200 [0, 501, 701, 702, 1001] [700] rfl Try.call13 rfl rfl rfl (by decide) (by decide) (put_spec ga room quota (x.1 : Int) B1 (by omega) (mkB (keyA c.key) v55 (c.src % 4) ((x.1 : Int) + 1 + c.dur % 20) (keyA_length c.key) ho55) (List.replicate n 0) _ (rd_star 4 rfl (fun h hp => rdP_cast (rowP_rd hp) rfl (List.length_replicate).symm))) (fun v67 Ps67 hR67 => ?_)) ?_
              ·
                obtain ⟨rfl, rfl⟩ := hR67
                refine ⟨⟨rfl, ⟨rfl, trivial⟩⟩, ?_⟩
                obtain ⟨e, B2, hp, hb2, hl2, he⟩ := bnd_put (now := (x.1 : Int)) (b := ⟨keyA c.key, List.replicate n 0, c.src % 4, (x.1 : Int) + 1 + c.dur % 20⟩) hI1 (by dsimp only; omega) (by dsimp only; omega) (by simp; omega) hs1
                rw [toBk_mk, hp]
                refine (AH_take 20 rfl (by kernel_rfl) (by kernel_rfl) (by kernel_rfl) rfl rfl (by decide) (Pu_assign rfl rfl) (AH_done (by kernel_rfl) (X_then ?_)))
                refine W_seq ?_
                refine W_seq ?_
                refine W.pre (K' := [(0, _), (1, _), (2, _), (7, _), (9, _), (10, _), (11, _), (12, _), (36, _)]) (L' := [(0, _), (501, _), (701, _), (702, _), (1001, _), (1200, _)]) ?_ ⟨rfl, ⟨rfl, ⟨rfl, ⟨rfl, ⟨rfl, ⟨rfl, ⟨rfl, ⟨rfl, ⟨rfl, trivial⟩⟩⟩⟩⟩⟩⟩⟩⟩ ⟨rfl, ⟨rfl, ⟨rfl, ⟨rfl, ⟨rfl, ⟨rfl, trivial⟩⟩⟩⟩⟩⟩
                rcases Bool.eq_false_or_eq_true (!(decide (e = 0))) with hsp12 | hsp12
                ·
                  have hne : e ≠ 0 := by simpa using hsp12
                  have he2 : (e = 15 ∨ e = 16) ∧ B2 = B1 := by rcases he with h | h; exact absurd h hne; exact h
                  obtain ⟨he3, rfl⟩ := he2
                  refine W_regL (WL_pure rfl rfl (by decide) (Pu_move rfl rfl) (WL_pure rfl rfl (by decide) (Pu_bin rfl rfl rfl (run_neq _ _ _ _ _ _)) (WL_pure rfl rfl (by decide) (Pu_move rfl rfl) (WL_gPT rfl rfl rfl (by rw [hsp12]; rfl) rfl (by decide) (Pu_move rfl rfl) (WL_gT rfl rfl rfl (by rw [hsp12]; rfl) rfl (by decide) (OpT_call 1300 [0, 501, 701, 702, 1001] [1200] rfl Try.call12 rfl rfl rfl (by decide) (by decide) (all_spec ga (room) (quota) B2 (by omega) _) (fun v72 Ps72 hR72 => ?_)))))))
                  obtain ⟨zs72, hzs72, rfl⟩ := hR72
                  have hzl72 : (zs72.map (fun p : EB => p.1)).length = zs72.length := List.length_map _
                  refine (WL_gPT rfl rfl rfl (by rw [hsp12]; rfl) rfl (by decide) (Pu_move rfl rfl) (WL_gT rfl rfl rfl (by rw [hsp12]; rfl) rfl (by decide) (OpT_call 1400 [0, 501, 701, 702, 1001, 1300, 1301, 1302] [] rfl Try.call15 rfl rfl rfl (by decide) (by decide) (same_spec v72 v47 zs72 zs47 (by rw [hzs72, hzs47]) (by have := congrArg List.length hzs72; rw [List.length_map] at this; omega) _ (rd_star 6 rfl (fun _ hp => rowP_rd hp)) (fun h hs => star_dat 7 rfl hs) (rd_star 2 rfl (fun _ hp => rowP_rd hp)) (fun h hs => star_dat 3 rfl hs)) (fun v74 Ps74 hR74 => ?_))))
                  obtain ⟨rfl, rfl⟩ := hR74
                  refine (WL_gPT rfl rfl rfl (by rw [hsp12]; rfl) rfl (by decide) (Pu_un rfl rfl (run_not _)) (WL_pure rfl rfl (by decide) (Pu_pickT rfl rfl hsp12 rfl) (WL_pure rfl rfl (by decide) (Pu_move rfl rfl) (WL_gPT rfl rfl rfl rfl rfl (by decide) (Pu_move rfl rfl) (WL_gPT rfl rfl rfl rfl rfl (by decide) (Pu_bin rfl rfl rfl (run_neq _ _ _ _ _ _)) (WL_gPT rfl rfl rfl rfl rfl (by decide) (Pu_move rfl rfl) (WL_gPT rfl rfl rfl (by simp [hne]) rfl (by decide) (Pu_move rfl rfl) (WL_gPT rfl rfl rfl (by simp [hne]) rfl (by decide) (Pu_bin rfl rfl rfl (run_neq _ _ _ _ _ _)) (WL_gPT rfl rfl rfl rfl rfl (by decide) (Pu_pickT rfl rfl (by simp [hne]) rfl) (WL_gPT rfl rfl rfl rfl rfl (by decide) (Pu_move rfl rfl) (WL_guardP rfl rfl rfl rfl (by decide) (fun hb => (Pu_move rfl rfl)) (WL_guardP rfl rfl rfl rfl (by decide) (fun hb => (Pu_bin rfl (ev_gv rfl hb) rfl (run_neq _ _ _ _ _ _))) (WL_gPT rfl rfl rfl rfl rfl (by decide) (Pu_and rfl rfl rfl) (WL_pure rfl rfl (by decide) (Pu_pickF rfl rfl rfl rfl) (WL_nil (X_then ?_))))))))))))))))
                  refine W_false rfl ((by first | rfl | (rcases he3 with rfl | rfl <;> rfl))) ?_
                  refine W_skip (X_then ?_)
                  refine W_seq ?_
                  refine W.pre (K' := [(0, _), (1, _), (2, _), (7, _), (9, _), (10, _), (11, _), (12, _), (36, _), (88, _)]) (L' := [(0, _), (501, _), (701, _), (702, _), (1001, _), (1300, _), (1301, _), (1302, _)]) ?_ ⟨rfl, ⟨rfl, ⟨rfl, ⟨rfl, ⟨rfl, ⟨rfl, ⟨rfl, ⟨rfl, ⟨rfl, ⟨rfl, trivial⟩⟩⟩⟩⟩⟩⟩⟩⟩⟩ ⟨rfl, ⟨rfl, ⟨rfl, ⟨rfl, ⟨rfl, ⟨rfl, ⟨rfl, ⟨rfl, trivial⟩⟩⟩⟩⟩⟩⟩⟩
                  refine W_regL (WL_pure rfl rfl (by decide) (Pu_assign rfl rfl) (WL_nil (X_then ?_)))
                  refine W_seq ?_
                  refine W_seq ?_
                  refine W.pre (K' := [(0, _), (1, _), (2, _), (7, _), (9, _), (10, _), (11, _), (12, _), (13, _), (36, _), (88, _)]) (L' := [(0, _), (501, _), (701, _), (702, _), (1001, _), (1300, _), (1301, _), (1302, _)]) ?_ ⟨rfl, ⟨rfl, ⟨rfl, ⟨rfl, ⟨rfl, ⟨rfl, ⟨rfl, ⟨rfl, ⟨rfl, ⟨rfl, ⟨rfl, trivial⟩⟩⟩⟩⟩⟩⟩⟩⟩⟩⟩ ⟨rfl, ⟨rfl, ⟨rfl, ⟨rfl, ⟨rfl, ⟨rfl, ⟨rfl, ⟨rfl, trivial⟩⟩⟩⟩⟩⟩⟩⟩
                  refine W_regL (WL_pure rfl rfl (by decide) (Pu_assign rfl rfl) (WL_nil (X_then ?_)))
                  refine W_block ?_
                  refine W_loop (α := Nat) (fun y => [(0, .int .i64 room), (1, .int .i64 quota), (2, vc), (7, .pointer (some ⟨ga, 0, none⟩)), (9, .int .i64 (x.1 : Int)), (13, .int .i64 (usum B2 y : Int)), (14, .int .i64 (y : Int))]) (fun y => [(0, orig Wo), (1300, areaP ga room quota B2)]) (fun y => y ≤ 4) (fun y => 4 - y) (0) (by omega) ⟨rfl, ⟨rfl, ⟨rfl, ⟨rfl, ⟨rfl, ⟨rfl, ⟨rfl, trivial⟩⟩⟩⟩⟩⟩⟩ ⟨rfl, ⟨rfl, trivial⟩⟩ (fun y hy => ?_)
                  have hus := usum_le B2 y
                  have hus2 := hb2.used (y : Int)
                  have hut := hb2.tot
                  have hus3 : y * totA B2 ≤ 4 * totA B2 := Nat.mul_le_mul_right _ hy
                  refine W_seq ?_
                  refine W_seq ?_
                  refine W.pre (K' := [(0, _), (1, _), (2, _), (7, _), (9, _), (13, _), (14, _)]) (L' := [(0, _), (1300, _)]) ?_ ⟨rfl, ⟨rfl, ⟨rfl, ⟨rfl, ⟨rfl, ⟨rfl, ⟨rfl, trivial⟩⟩⟩⟩⟩⟩⟩ ⟨rfl, ⟨rfl, trivial⟩⟩
                  refine W_regL (WL_pure rfl rfl (by decide) (Pu_move rfl rfl) (WL_pure rfl rfl (by decide) (Pu_bin rfl rfl rfl (run_lss _ _ _ _ _ _)) (WL_nil (X_then ?_))))
                  refine W_cond rfl (fun hc90 => ?_) (fun hc90 => ?_)
                  ·
                    have hy4 : y < 4 := by have := of_decide_eq_true hc90; omega
                    refine W_skip (X_then ?_)
                    refine W_seq ?_
                    refine W_block ?_
                    refine W_seq ?_
                    refine W_seq ?_
                    refine W.pre (K' := [(0, _), (1, _), (2, _), (7, _), (9, _), (13, _), (14, _), (90, _)]) (L' := [(0, _), (1300, _)]) ?_ ⟨rfl, ⟨rfl, ⟨rfl, ⟨rfl, ⟨rfl, ⟨rfl, ⟨rfl, ⟨rfl, trivial⟩⟩⟩⟩⟩⟩⟩⟩ ⟨rfl, ⟨rfl, trivial⟩⟩
                    refine W_regL (WL_pure rfl rfl (by decide) (Pu_move rfl rfl) (WL_pure rfl rfl (by decide) (Pu_move rfl rfl) (WL_cons rfl rfl (by decide) (OpT_call 1500 [0] [1300] rfl Try.call16 rfl rfl rfl (by decide) (by decide) (used_spec ga room quota (y : Int) B2 _) (fun v95 Ps95 hR95 => ?_)))))
                    obtain ⟨rfl, rfl⟩ := hR95
                    refine (WL_pure rfl rfl (by decide) (Pu_move rfl rfl) (WL_pure rfl rfl (by decide) (Pu_bin rfl rfl rfl (run_gtr _ _ _ _ _ _)) (WL_nil (X_then ?_))))
                    refine W_false rfl ((decide_eq_false (by omega))) ?_
                    refine W_skip (X_then ?_)
                    refine W.pre (K' := [(0, _), (1, _), (2, _), (7, _), (9, _), (13, _), (14, _), (90, _), (97, _)]) (L' := [(0, _), (1500, _)]) ?_ ⟨rfl, ⟨rfl, ⟨rfl, ⟨rfl, ⟨rfl, ⟨rfl, ⟨rfl, ⟨rfl, ⟨rfl, trivial⟩⟩⟩⟩⟩⟩⟩⟩⟩ ⟨rfl, ⟨rfl, trivial⟩⟩
                    refine W_regL (WL_pure rfl rfl (by decide) (Pu_move rfl rfl) (WL_pure rfl rfl (by decide) (Pu_move rfl rfl) (WL_pure rfl rfl (by decide) (Pu_move rfl rfl) (WL_cons rfl rfl (by decide) (OpT_call 1600 [0] [1500] rfl Try.call16 rfl rfl rfl (by decide) (by decide) (used_spec ga room quota (y : Int) B2 _) (fun v101 Ps101 hR101 => ?_))))))
                    obtain ⟨rfl, rfl⟩ := hR101
                    refine (WL_pure rfl rfl (by decide) (Pu_bin rfl rfl rfl (run_add _ _ _ _ _ (by omega))) (WL_pure rfl rfl (by decide) (Pu_assign rfl rfl) (WL_nil (X_block (X_then ?_)))))
                    refine W.pre (K' := [(0, _), (1, _), (2, _), (7, _), (9, _), (13, _), (14, _), (90, _), (97, _)]) (L' := [(0, _), (1600, _)]) ?_ ⟨rfl, ⟨rfl, ⟨rfl, ⟨rfl, ⟨rfl, ⟨rfl, ⟨rfl, ⟨rfl, ⟨rfl, trivial⟩⟩⟩⟩⟩⟩⟩⟩⟩ ⟨rfl, ⟨rfl, trivial⟩⟩
                    refine W_regL (WL_pure rfl rfl (by decide) (Pu_move rfl rfl) (WL_pure rfl rfl (by decide) (Pu_bin rfl rfl rfl (run_add _ _ _ _ _ (by omega))) (WL_pure rfl rfl (by decide) (Pu_assign rfl rfl) (WL_nil ?_))))
                    refine X_ren 1600 1300 rfl ?_
                    exact X_round (y + 1) (by omega) (by omega) ⟨rfl, rfl, rfl, rfl, rfl, lookV_eq rfl (int_eq (by show _ = (((usum B2 y + usedA (y : Int) B2 : Nat)) : Int); omega)), rfl, trivial⟩ ⟨rfl, rfl, trivial⟩
                  ·
                    obtain rfl : y = 4 := by have := of_decide_eq_false hc90; omega
                    have hall := usum_all hb2.src
                    rw [hall]
                    refine W_exit (X_then_exit (X_then_exit (X_block_exit (X_then ?_))))
                    refine W_seq ?_
                    refine W.pre (K' := [(0, _), (1, _), (2, _), (7, _), (9, _), (13, _), (14, _), (90, _)]) (L' := [(0, _), (1300, _)]) ?_ ⟨rfl, ⟨rfl, ⟨rfl, ⟨rfl, ⟨rfl, ⟨rfl, ⟨rfl, ⟨rfl, trivial⟩⟩⟩⟩⟩⟩⟩⟩ ⟨rfl, ⟨rfl, trivial⟩⟩
                    refine W_regL (WL_pure rfl rfl (by decide) (Pu_move rfl rfl) (WL_pure rfl rfl (by decide) (Pu_move rfl rfl) (WL_cons rfl rfl (by decide) (OpT_call 1500 [0] [1300] rfl Try.call17 rfl rfl rfl (by decide) (by decide) (total_spec ga room quota B2 _) (fun v105 Ps105 hR105 => ?_)))))
                    obtain ⟨rfl, rfl⟩ := hR105
                    refine (WL_pure rfl rfl (by decide) (Pu_bin rfl rfl rfl (run_neq _ _ _ _ _ _)) (WL_pure rfl rfl (by decide) (Pu_move rfl rfl) (WL_guardP rfl rfl rfl rfl (by decide) (fun hb => (Pu_move rfl rfl)) (WL_guardP rfl rfl rfl rfl (by decide) (fun hb => (Pu_move rfl rfl)) (WL_guardP rfl rfl rfl rfl (by decide) (fun hb => (Pu_bin rfl (ev_gv rfl hb) (ev_gv rfl hb) (run_gtr _ _ _ _ _ _))) (WL_pure rfl rfl (by decide) (Pu_or rfl rfl rfl) (WL_nil (X_then ?_))))))))
                    refine W_false rfl ((by simp; omega)) ?_
                    refine W_skip (X_block (X_then ?_))
                    refine W.pre (K' := [(0, _), (1, _), (2, _), (7, _), (9, _), (13, _), (14, _), (90, _), (111, _)]) (L' := [(0, _), (1500, _)]) ?_ ⟨rfl, ⟨rfl, ⟨rfl, ⟨rfl, ⟨rfl, ⟨rfl, ⟨rfl, ⟨rfl, ⟨rfl, trivial⟩⟩⟩⟩⟩⟩⟩⟩⟩ ⟨rfl, ⟨rfl, trivial⟩⟩
                    refine W_regL (WL_pure rfl rfl (by decide) (Pu_move rfl rfl) (WL_pure rfl rfl (by decide) (Pu_bin rfl rfl rfl (run_add _ _ _ _ _ (by omega))) (WL_pure rfl rfl (by decide) (Pu_assign rfl rfl) (WL_nil ?_))))
                    refine X_ren 1500 500 rfl ?_
                    exact X_round (x.1 + 1, B2) ⟨hb2, by dsimp only; omega, by dsimp only; omega⟩ (by show 80 - (x.1 + 1) < 80 - x.1; omega) ⟨rfl, rfl, rfl, rfl, rfl, trivial⟩ ⟨rfl, rfl, trivial⟩
                ·
                  have he0 : e = 0 := by simpa using hsp12
                  subst he0
                  refine W_regL (WL_pure rfl rfl (by decide) (Pu_move rfl rfl) (WL_pure rfl rfl (by decide) (Pu_bin rfl rfl rfl (run_neq _ _ _ _ _ _)) (WL_pure rfl rfl (by decide) (Pu_move rfl rfl) (WL_gF rfl rfl rfl (by rw [hsp12]; rfl) rfl (by decide) (WL_gF rfl rfl rfl (by rw [hsp12]; rfl) rfl (by decide) (WL_gF rfl rfl rfl (by rw [hsp12]; rfl) rfl (by decide) (WL_gF rfl rfl rfl (by rw [hsp12]; rfl) rfl (by decide) (WL_gF rfl rfl rfl (by rw [hsp12]; rfl) rfl (by decide) (WL_pure rfl rfl (by decide) (Pu_pickF rfl rfl hsp12 rfl) (WL_pure rfl rfl (by decide) (Pu_move rfl rfl) (WL_gPT rfl rfl rfl rfl rfl (by decide) (Pu_move rfl rfl) (WL_gPT rfl rfl rfl rfl rfl (by decide) (Pu_bin rfl rfl rfl (run_neq _ _ _ _ _ _)) (WL_gPT rfl rfl rfl rfl rfl (by decide) (Pu_move rfl rfl) (WL_gF rfl rfl rfl rfl rfl (by decide) (WL_gF rfl rfl rfl rfl rfl (by decide) (WL_gPT rfl rfl rfl rfl rfl (by decide) (Pu_pickF rfl rfl rfl rfl) (WL_gPT rfl rfl rfl rfl rfl (by decide) (Pu_move rfl rfl) (WL_gF rfl rfl rfl rfl rfl (by decide) (WL_gF rfl rfl rfl rfl rfl (by decide) (WL_gPT rfl rfl rfl rfl rfl (by decide) (Pu_pickF rfl rfl rfl rfl) (WL_pure rfl rfl (by decide) (Pu_pickF rfl rfl rfl rfl) (WL_nil (X_then ?_)))))))))))))))))))))))
                  refine W_false rfl ((by first | rfl | (rcases he3 with rfl | rfl <;> rfl))) ?_
                  refine W_skip (X_then ?_)
                  refine W_seq ?_
                  refine W.pre (K' := [(0, _), (1, _), (2, _), (7, _), (9, _), (10, _), (11, _), (12, _), (36, _), (88, _)]) (L' := [(0, _), (501, _), (701, _), (702, _), (1001, _), (1200, _)]) ?_ ⟨rfl, ⟨rfl, ⟨rfl, ⟨rfl, ⟨rfl, ⟨rfl, ⟨rfl, ⟨rfl, ⟨rfl, ⟨rfl, trivial⟩⟩⟩⟩⟩⟩⟩⟩⟩⟩ ⟨rfl, ⟨rfl, ⟨rfl, ⟨rfl, ⟨rfl, ⟨rfl, trivial⟩⟩⟩⟩⟩⟩
                  refine W_regL (WL_pure rfl rfl (by decide) (Pu_assign rfl rfl) (WL_nil (X_then ?_)))
                  refine W_seq ?_
                  refine W_seq ?_
                  refine W.pre (K' := [(0, _), (1, _), (2, _), (7, _), (9, _), (10, _), (11, _), (12, _), (13, _), (36, _), (88, _)]) (L' := [(0, _), (501, _), (701, _), (702, _), (1001, _), (1200, _)]) ?_ ⟨rfl, ⟨rfl, ⟨rfl, ⟨rfl, ⟨rfl, ⟨rfl, ⟨rfl, ⟨rfl, ⟨rfl, ⟨rfl, ⟨rfl, trivial⟩⟩⟩⟩⟩⟩⟩⟩⟩⟩⟩ ⟨rfl, ⟨rfl, ⟨rfl, ⟨rfl, ⟨rfl, ⟨rfl, trivial⟩⟩⟩⟩⟩⟩
                  refine W_regL (WL_pure rfl rfl (by decide) (Pu_assign rfl rfl) (WL_nil (X_then ?_)))
                  refine W_block ?_
                  refine W_loop (α := Nat) (fun y => [(0, .int .i64 room), (1, .int .i64 quota), (2, vc), (7, .pointer (some ⟨ga, 0, none⟩)), (9, .int .i64 (x.1 : Int)), (13, .int .i64 (usum B2 y : Int)), (14, .int .i64 (y : Int))]) (fun y => [(0, orig Wo), (1200, areaP ga room quota B2)]) (fun y => y ≤ 4) (fun y => 4 - y) (0) (by omega) ⟨rfl, ⟨rfl, ⟨rfl, ⟨rfl, ⟨rfl, ⟨rfl, ⟨rfl, trivial⟩⟩⟩⟩⟩⟩⟩ ⟨rfl, ⟨rfl, trivial⟩⟩ (fun y hy => ?_)
                  have hus := usum_le B2 y
                  have hus2 := hb2.used (y : Int)
                  have hut := hb2.tot
                  have hus3 : y * totA B2 ≤ 4 * totA B2 := Nat.mul_le_mul_right _ hy
                  refine W_seq ?_
                  refine W_seq ?_
                  refine W.pre (K' := [(0, _), (1, _), (2, _), (7, _), (9, _), (13, _), (14, _)]) (L' := [(0, _), (1200, _)]) ?_ ⟨rfl, ⟨rfl, ⟨rfl, ⟨rfl, ⟨rfl, ⟨rfl, ⟨rfl, trivial⟩⟩⟩⟩⟩⟩⟩ ⟨rfl, ⟨rfl, trivial⟩⟩
                  refine W_regL (WL_pure rfl rfl (by decide) (Pu_move rfl rfl) (WL_pure rfl rfl (by decide) (Pu_bin rfl rfl rfl (run_lss _ _ _ _ _ _)) (WL_nil (X_then ?_))))
                  refine W_cond rfl (fun hc90 => ?_) (fun hc90 => ?_)
                  ·
                    have hy4 : y < 4 := by have := of_decide_eq_true hc90; omega
                    refine W_skip (X_then ?_)
                    refine W_seq ?_
                    refine W_block ?_
                    refine W_seq ?_
                    refine W_seq ?_
                    refine W.pre (K' := [(0, _), (1, _), (2, _), (7, _), (9, _), (13, _), (14, _), (90, _)]) (L' := [(0, _), (1200, _)]) ?_ ⟨rfl, ⟨rfl, ⟨rfl, ⟨rfl, ⟨rfl, ⟨rfl, ⟨rfl, ⟨rfl, trivial⟩⟩⟩⟩⟩⟩⟩⟩ ⟨rfl, ⟨rfl, trivial⟩⟩
                    refine W_regL (WL_pure rfl rfl (by decide) (Pu_move rfl rfl) (WL_pure rfl rfl (by decide) (Pu_move rfl rfl) (WL_cons rfl rfl (by decide) (OpT_call 1300 [0] [1200] rfl Try.call16 rfl rfl rfl (by decide) (by decide) (used_spec ga room quota (y : Int) B2 _) (fun v95 Ps95 hR95 => ?_)))))
                    obtain ⟨rfl, rfl⟩ := hR95
                    refine (WL_pure rfl rfl (by decide) (Pu_move rfl rfl) (WL_pure rfl rfl (by decide) (Pu_bin rfl rfl rfl (run_gtr _ _ _ _ _ _)) (WL_nil (X_then ?_))))
                    refine W_false rfl ((decide_eq_false (by omega))) ?_
                    refine W_skip (X_then ?_)
                    refine W.pre (K' := [(0, _), (1, _), (2, _), (7, _), (9, _), (13, _), (14, _), (90, _), (97, _)]) (L' := [(0, _), (1300, _)]) ?_ ⟨rfl, ⟨rfl, ⟨rfl, ⟨rfl, ⟨rfl, ⟨rfl, ⟨rfl, ⟨rfl, ⟨rfl, trivial⟩⟩⟩⟩⟩⟩⟩⟩⟩ ⟨rfl, ⟨rfl, trivial⟩⟩
                    refine W_regL (WL_pure rfl rfl (by decide) (Pu_move rfl rfl) (WL_pure rfl rfl (by decide) (Pu_move rfl rfl) (WL_pure rfl rfl (by decide) (Pu_move rfl rfl) (WL_cons rfl rfl (by decide) (OpT_call 1400 [0] [1300] rfl Try.call16 rfl rfl rfl (by decide) (by decide) (used_spec ga room quota (y : Int) B2 _) (fun v101 Ps101 hR101 => ?_))))))
                    obtain ⟨rfl, rfl⟩ := hR101
                    refine (WL_pure rfl rfl (by decide) (Pu_bin rfl rfl rfl (run_add _ _ _ _ _ (by omega))) (WL_pure rfl rfl (by decide) (Pu_assign rfl rfl) (WL_nil (X_block (X_then ?_)))))
                    refine W.pre (K' := [(0, _), (1, _), (2, _), (7, _), (9, _), (13, _), (14, _), (90, _), (97, _)]) (L' := [(0, _), (1400, _)]) ?_ ⟨rfl, ⟨rfl, ⟨rfl, ⟨rfl, ⟨rfl, ⟨rfl, ⟨rfl, ⟨rfl, ⟨rfl, trivial⟩⟩⟩⟩⟩⟩⟩⟩⟩ ⟨rfl, ⟨rfl, trivial⟩⟩
                    refine W_regL (WL_pure rfl rfl (by decide) (Pu_move rfl rfl) (WL_pure rfl rfl (by decide) (Pu_bin rfl rfl rfl (run_add _ _ _ _ _ (by omega))) (WL_pure rfl rfl (by decide) (Pu_assign rfl rfl) (WL_nil ?_))))
                    refine X_ren 1400 1200 rfl ?_
                    exact X_round (y + 1) (by omega) (by omega) ⟨rfl, rfl, rfl, rfl, rfl, lookV_eq rfl (int_eq (by show _ = (((usum B2 y + usedA (y : Int) B2 : Nat)) : Int); omega)), rfl, trivial⟩ ⟨rfl, rfl, trivial⟩
                  ·
                    obtain rfl : y = 4 := by have := of_decide_eq_false hc90; omega
                    have hall := usum_all hb2.src
                    rw [hall]
                    refine W_exit (X_then_exit (X_then_exit (X_block_exit (X_then ?_))))
                    refine W_seq ?_
                    refine W.pre (K' := [(0, _), (1, _), (2, _), (7, _), (9, _), (13, _), (14, _), (90, _)]) (L' := [(0, _), (1200, _)]) ?_ ⟨rfl, ⟨rfl, ⟨rfl, ⟨rfl, ⟨rfl, ⟨rfl, ⟨rfl, ⟨rfl, trivial⟩⟩⟩⟩⟩⟩⟩⟩ ⟨rfl, ⟨rfl, trivial⟩⟩
                    refine W_regL (WL_pure rfl rfl (by decide) (Pu_move rfl rfl) (WL_pure rfl rfl (by decide) (Pu_move rfl rfl) (WL_cons rfl rfl (by decide) (OpT_call 1300 [0] [1200] rfl Try.call17 rfl rfl rfl (by decide) (by decide) (total_spec ga room quota B2 _) (fun v105 Ps105 hR105 => ?_)))))
                    obtain ⟨rfl, rfl⟩ := hR105
                    refine (WL_pure rfl rfl (by decide) (Pu_bin rfl rfl rfl (run_neq _ _ _ _ _ _)) (WL_pure rfl rfl (by decide) (Pu_move rfl rfl) (WL_guardP rfl rfl rfl rfl (by decide) (fun hb => (Pu_move rfl rfl)) (WL_guardP rfl rfl rfl rfl (by decide) (fun hb => (Pu_move rfl rfl)) (WL_guardP rfl rfl rfl rfl (by decide) (fun hb => (Pu_bin rfl (ev_gv rfl hb) (ev_gv rfl hb) (run_gtr _ _ _ _ _ _))) (WL_pure rfl rfl (by decide) (Pu_or rfl rfl rfl) (WL_nil (X_then ?_))))))))
                    refine W_false rfl ((by simp; omega)) ?_
                    refine W_skip (X_block (X_then ?_))
                    refine W.pre (K' := [(0, _), (1, _), (2, _), (7, _), (9, _), (13, _), (14, _), (90, _), (111, _)]) (L' := [(0, _), (1300, _)]) ?_ ⟨rfl, ⟨rfl, ⟨rfl, ⟨rfl, ⟨rfl, ⟨rfl, ⟨rfl, ⟨rfl, ⟨rfl, trivial⟩⟩⟩⟩⟩⟩⟩⟩⟩ ⟨rfl, ⟨rfl, trivial⟩⟩
                    refine W_regL (WL_pure rfl rfl (by decide) (Pu_move rfl rfl) (WL_pure rfl rfl (by decide) (Pu_bin rfl rfl rfl (run_add _ _ _ _ _ (by omega))) (WL_pure rfl rfl (by decide) (Pu_assign rfl rfl) (WL_nil ?_))))
                    refine X_ren 1300 500 rfl ?_
                    exact X_round (x.1 + 1, B2) ⟨hb2, by dsimp only; omega, by dsimp only; omega⟩ (by show 80 - (x.1 + 1) < 80 - x.1; omega) ⟨rfl, rfl, rfl, rfl, rfl, trivial⟩ ⟨rfl, rfl, trivial⟩
              exact AHs_nil
            exact AHs_nil
          refine AHs_cons rfl rfl rfl (by decide) (OpT_call 1100 [0, 501, 700, 701, 702] [] rfl Try.call9 rfl rfl rfl (by decide) (by decide) (within_spec c.dur 20 (by omega) (by omega) _) (fun v63 Ps63 hR63 => ?_)) ?_
          ·
            obtain ⟨rfl, rfl⟩ := hR63
            refine ⟨⟨rfl, ⟨rfl, trivial⟩⟩, ?_⟩
            refine (AH_take 16 rfl (by kernel_rfl) (by kernel_rfl) (by kernel_rfl) rfl rfl (by decide) (Pu_bin rfl rfl rfl (run_add _ _ _ _ _ (by omega))) (AH_ready [7] (by kernel_rfl) (by decide) ?_))
            refine AHs_cons rfl rfl rfl (by decide) (OpT_make (r := 1101) (m := n) rfl Try.underlying38 TI.hi5 TI.hz5 TI.hs5 rfl rfl (by rw [TI.hby5]; omega) (by unfold maxLen; omega) ((made_one _ _).trans (made_bytes n)) (fun v55 => ?_)) ?_
            ·
              refine ⟨⟨rfl, ⟨rfl, trivial⟩⟩, ?_⟩
              refine AH_fact (r := 1101) rfl (fun h hp => rd_one (rowP_rd hp)) (fun ho55 => ?_)
              refine (AH_take 17 rfl (by kernel_rfl) (by kernel_rfl) (by kernel_rfl) rfl rfl (by decide) (Pu_bk (keyA_length c.key) ho55 rfl rfl (.k (keyA_length c.key) (.d ho55 (.s (.e (.nil _)))))) (AH_ready [19] (by kernel_rfl) (by decide) ?_))
              refine AHs_cons rfl rfl rfl (by decide) (OpT_call 1200 [0, 501, 701, 702, 1101] [700] rfl Try.call13 rfl rfl rfl (by decide) (by decide) (put_spec ga room quota (x.1 : Int) B1 (by omega) (mkB (keyA c.key) v55 (c.src % 4) ((x.1 : Int) + 1 + c.dur % 20) (keyA_length c.key) ho55) (List.replicate n 0) _ (rd_star 4 rfl (fun h hp => rdP_cast (rowP_rd hp) rfl (List.length_replicate).symm))) (fun v67 Ps67 hR67 => ?_)) ?_
              ·
                obtain ⟨rfl, rfl⟩ := hR67
                refine ⟨⟨rfl, ⟨rfl, trivial⟩⟩, ?_⟩
                obtain ⟨e, B2, hp, hb2, hl2, he⟩ := bnd_put (now := (x.1 : Int)) (b := ⟨keyA c.key, List.replicate n 0, c.src % 4, (x.1 : Int) + 1 + c.dur % 20⟩) hI1 (by dsimp only; omega) (by dsimp only; omega) (by simp; omega) hs1
                rw [toBk_mk, hp]
                refine (AH_take 20 rfl (by kernel_rfl) (by kernel_rfl) (by kernel_rfl) rfl rfl (by decide) (Pu_assign rfl rfl) (AH_done (by kernel_rfl) (X_then ?_)))
                refine W_seq ?_
                refine W_seq ?_
                refine W.pre (K' := [(0, _), (1, _), (2, _), (7, _), (9, _), (10, _), (11, _), (12, _), (36, _)]) (L' := [(0, _), (501, _), (701, _), (702, _), (1101, _), (1200, _)]) ?_ ⟨rfl, ⟨rfl, ⟨rfl, ⟨rfl, ⟨rfl, ⟨rfl, ⟨rfl, ⟨rfl, ⟨rfl, trivial⟩⟩⟩⟩⟩⟩⟩⟩⟩ ⟨rfl, ⟨rfl, ⟨rfl, ⟨rfl, ⟨rfl, ⟨rfl, trivial⟩⟩⟩⟩⟩⟩
                rcases Bool.eq_false_or_eq_true (!(decide (e = 0))) with hsp12 | hsp12
                ·
                  have hne : e ≠ 0 := by simpa using hsp12
                  have he2 : (e = 15 ∨ e = 16) ∧ B2 = B1 := by rcases he with h | h; exact absurd h hne; exact h
                  obtain ⟨he3, rfl⟩ := he2
                  refine W_regL (WL_pure rfl rfl (by decide) (Pu_move rfl rfl) (WL_pure rfl rfl (by decide) (Pu_bin rfl rfl rfl (run_neq _ _ _ _ _ _)) (WL_pure rfl rfl (by decide) (Pu_move rfl rfl) (WL_gPT rfl rfl rfl (by rw [hsp12]; rfl) rfl (by decide) (Pu_move rfl rfl) (WL_gT rfl rfl rfl (by rw [hsp12]; rfl) rfl (by decide) (OpT_call 1300 [0, 501, 701, 702, 1101] [1200] rfl Try.call12 rfl rfl rfl (by decide) (by decide) (all_spec ga (room) (quota) B2 (by omega) _) (fun v72 Ps72 hR72 => ?_)))))))
                  obtain ⟨zs72, hzs72, rfl⟩ := hR72
                  have hzl72 : (zs72.map (fun p : EB => p.1)).length = zs72.length := List.length_map _
                  refine (WL_gPT rfl rfl rfl (by rw [hsp12]; rfl) rfl (by decide) (Pu_move rfl rfl) (WL_gT rfl rfl rfl (by rw [hsp12]; rfl) rfl (by decide) (OpT_call 1400 [0, 501, 701, 702, 1101, 1300, 1301, 1302] [] rfl Try.call15 rfl rfl rfl (by decide) (by decide) (same_spec v72 v47 zs72 zs47 (by rw [hzs72, hzs47]) (by have := congrArg List.length hzs72; rw [List.length_map] at this; omega) _ (rd_star 6 rfl (fun _ hp => rowP_rd hp)) (fun h hs => star_dat 7 rfl hs) (rd_star 2 rfl (fun _ hp => rowP_rd hp)) (fun h hs => star_dat 3 rfl hs)) (fun v74 Ps74 hR74 => ?_))))
                  obtain ⟨rfl, rfl⟩ := hR74
                  refine (WL_gPT rfl rfl rfl (by rw [hsp12]; rfl) rfl (by decide) (Pu_un rfl rfl (run_not _)) (WL_pure rfl rfl (by decide) (Pu_pickT rfl rfl hsp12 rfl) (WL_pure rfl rfl (by decide) (Pu_move rfl rfl) (WL_gPT rfl rfl rfl rfl rfl (by decide) (Pu_move rfl rfl) (WL_gPT rfl rfl rfl rfl rfl (by decide) (Pu_bin rfl rfl rfl (run_neq _ _ _ _ _ _)) (WL_gPT rfl rfl rfl rfl rfl (by decide) (Pu_move rfl rfl) (WL_gPT rfl rfl rfl (by simp [hne]) rfl (by decide) (Pu_move rfl rfl) (WL_gPT rfl rfl rfl (by simp [hne]) rfl (by decide) (Pu_bin rfl rfl rfl (run_neq _ _ _ _ _ _)) (WL_gPT rfl rfl rfl rfl rfl (by decide) (Pu_pickT rfl rfl (by simp [hne]) rfl) (WL_gPT rfl rfl rfl rfl rfl (by decide) (Pu_move rfl rfl) (WL_guardP rfl rfl rfl rfl (by decide) (fun hb => (Pu_move rfl rfl)) (WL_guardP rfl rfl rfl rfl (by decide) (fun hb => (Pu_bin rfl (ev_gv rfl hb) rfl (run_neq _ _ _ _ _ _))) (WL_gPT rfl rfl rfl rfl rfl (by decide) (Pu_and rfl rfl rfl) (WL_pure rfl rfl (by decide) (Pu_pickF rfl rfl rfl rfl) (WL_nil (X_then ?_))))))))))))))))
                  refine W_false rfl ((by first | rfl | (rcases he3 with rfl | rfl <;> rfl))) ?_
                  refine W_skip (X_then ?_)
                  refine W_seq ?_
                  refine W.pre (K' := [(0, _), (1, _), (2, _), (7, _), (9, _), (10, _), (11, _), (12, _), (36, _), (88, _)]) (L' := [(0, _), (501, _), (701, _), (702, _), (1101, _), (1300, _), (1301, _), (1302, _)]) ?_ ⟨rfl, ⟨rfl, ⟨rfl, ⟨rfl, ⟨rfl, ⟨rfl, ⟨rfl, ⟨rfl, ⟨rfl, ⟨rfl, trivial⟩⟩⟩⟩⟩⟩⟩⟩⟩⟩ ⟨rfl, ⟨rfl, ⟨rfl, ⟨rfl, ⟨rfl, ⟨rfl, ⟨rfl, ⟨rfl, trivial⟩⟩⟩⟩⟩⟩⟩⟩
                  refine W_regL (WL_pure rfl rfl (by decide) (Pu_assign rfl rfl) (WL_nil (X_then ?_)))
                  refine W_seq ?_
                  refine W_seq ?_
                  refine W.pre (K' := [(0, _), (1, _), (2, _), (7, _), (9, _), (10, _), (11, _), (12, _), (13, _), (36, _), (88, _)]) (L' := [(0, _), (501, _), (701, _), (702, _), (1101, _), (1300, _), (1301, _), (1302, _)]) ?_ ⟨rfl, ⟨rfl, ⟨rfl, ⟨rfl, ⟨rfl, ⟨rfl, ⟨rfl, ⟨rfl, ⟨rfl, ⟨rfl, ⟨rfl, trivial⟩⟩⟩⟩⟩⟩⟩⟩⟩⟩⟩ ⟨rfl, ⟨rfl, ⟨rfl, ⟨rfl, ⟨rfl, ⟨rfl, ⟨rfl, ⟨rfl, trivial⟩⟩⟩⟩⟩⟩⟩⟩
                  refine W_regL (WL_pure rfl rfl (by decide) (Pu_assign rfl rfl) (WL_nil (X_then ?_)))
                  refine W_block ?_
                  refine W_loop (α := Nat) (fun y => [(0, .int .i64 room), (1, .int .i64 quota), (2, vc), (7, .pointer (some ⟨ga, 0, none⟩)), (9, .int .i64 (x.1 : Int)), (13, .int .i64 (usum B2 y : Int)), (14, .int .i64 (y : Int))]) (fun y => [(0, orig Wo), (1300, areaP ga room quota B2)]) (fun y => y ≤ 4) (fun y => 4 - y) (0) (by omega) ⟨rfl, ⟨rfl, ⟨rfl, ⟨rfl, ⟨rfl, ⟨rfl, ⟨rfl, trivial⟩⟩⟩⟩⟩⟩⟩ ⟨rfl, ⟨rfl, trivial⟩⟩ (fun y hy => ?_)
                  have hus := usum_le B2 y
                  have hus2 := hb2.used (y : Int)
                  have hut := hb2.tot
                  have hus3 : y * totA B2 ≤ 4 * totA B2 := Nat.mul_le_mul_right _ hy
                  refine W_seq ?_
                  refine W_seq ?_
                  refine W.pre (K' := [(0, _), (1, _), (2, _), (7, _), (9, _), (13, _), (14, _)]) (L' := [(0, _), (1300, _)]) ?_ ⟨rfl, ⟨rfl, ⟨rfl, ⟨rfl, ⟨rfl, ⟨rfl, ⟨rfl, trivial⟩⟩⟩⟩⟩⟩⟩ ⟨rfl, ⟨rfl, trivial⟩⟩
                  refine W_regL (WL_pure rfl rfl (by decide) (Pu_move rfl rfl) (WL_pure rfl rfl (by decide) (Pu_bin rfl rfl rfl (run_lss _ _ _ _ _ _)) (WL_nil (X_then ?_))))
                  refine W_cond rfl (fun hc90 => ?_) (fun hc90 => ?_)
                  ·
                    have hy4 : y < 4 := by have := of_decide_eq_true hc90; omega
                    refine W_skip (X_then ?_)
                    refine W_seq ?_
                    refine W_block ?_
                    refine W_seq ?_
                    refine W_seq ?_
                    refine W.pre (K' := [(0, _), (1, _), (2, _), (7, _), (9, _), (13, _), (14, _), (90, _)]) (L' := [(0, _), (1300, _)]) ?_ ⟨rfl, ⟨rfl, ⟨rfl, ⟨rfl, ⟨rfl, ⟨rfl, ⟨rfl, ⟨rfl, trivial⟩⟩⟩⟩⟩⟩⟩⟩ ⟨rfl, ⟨rfl, trivial⟩⟩
                    refine W_regL (WL_pure rfl rfl (by decide) (Pu_move rfl rfl) (WL_pure rfl rfl (by decide) (Pu_move rfl rfl) (WL_cons rfl rfl (by decide) (OpT_call 1500 [0] [1300] rfl Try.call16 rfl rfl rfl (by decide) (by decide) (used_spec ga room quota (y : Int) B2 _) (fun v95 Ps95 hR95 => ?_)))))
                    obtain ⟨rfl, rfl⟩ := hR95
                    refine (WL_pure rfl rfl (by decide) (Pu_move rfl rfl) (WL_pure rfl rfl (by decide) (Pu_bin rfl rfl rfl (run_gtr _ _ _ _ _ _)) (WL_nil (X_then ?_))))
                    refine W_false rfl ((decide_eq_false (by omega))) ?_
                    refine W_skip (X_then ?_)
                    refine W.pre (K' := [(0, _), (1, _), (2, _), (7, _), (9, _), (13, _), (14, _), (90, _), (97, _)]) (L' := [(0, _), (1500, _)]) ?_ ⟨rfl, ⟨rfl, ⟨rfl, ⟨rfl, ⟨rfl, ⟨rfl, ⟨rfl, ⟨rfl, ⟨rfl, trivial⟩⟩⟩⟩⟩⟩⟩⟩⟩ ⟨rfl, ⟨rfl, trivial⟩⟩
                    refine W_regL (WL_pure rfl rfl (by decide) (Pu_move rfl rfl) (WL_pure rfl rfl (by decide) (Pu_move rfl rfl) (WL_pure rfl rfl (by decide) (Pu_move rfl rfl) (WL_cons rfl rfl (by decide) (OpT_call 1600 [0] [1500] rfl Try.call16 rfl rfl rfl (by decide) (by decide) (used_spec ga room quota (y : Int) B2 _) (fun v101 Ps101 hR101 => ?_))))))
                    obtain ⟨rfl, rfl⟩ := hR101
                    refine (WL_pure rfl rfl (by decide) (Pu_bin rfl rfl rfl (run_add _ _ _ _ _ (by omega))) (WL_pure rfl rfl (by decide) (Pu_assign rfl rfl) (WL_nil (X_block (X_then ?_)))))
                    refine W.pre (K' := [(0, _), (1, _), (2, _), (7, _), (9, _), (13, _), (14, _), (90, _), (97, _)]) (L' := [(0, _), (1600, _)]) ?_ ⟨rfl, ⟨rfl, ⟨rfl, ⟨rfl, ⟨rfl, ⟨rfl, ⟨rfl, ⟨rfl, ⟨rfl, trivial⟩⟩⟩⟩⟩⟩⟩⟩⟩ ⟨rfl, ⟨rfl, trivial⟩⟩
                    refine W_regL (WL_pure rfl rfl (by decide) (Pu_move rfl rfl) (WL_pure rfl rfl (by decide) (Pu_bin rfl rfl rfl (run_add _ _ _ _ _ (by omega))) (WL_pure rfl rfl (by decide) (Pu_assign rfl rfl) (WL_nil ?_))))
                    refine X_ren 1600 1300 rfl ?_
                    exact X_round (y + 1) (by omega) (by omega) ⟨rfl, rfl, rfl, rfl, rfl, lookV_eq rfl (int_eq (by show _ = (((usum B2 y + usedA (y : Int) B2 : Nat)) : Int); omega)), rfl, trivial⟩ ⟨rfl, rfl, trivial⟩
                  ·
                    obtain rfl : y = 4 := by have := of_decide_eq_false hc90; omega
                    have hall := usum_all hb2.src
                    rw [hall]
                    refine W_exit (X_then_exit (X_then_exit (X_block_exit (X_then ?_))))
                    refine W_seq ?_
                    refine W.pre (K' := [(0, _), (1, _), (2, _), (7, _), (9, _), (13, _), (14, _), (90, _)]) (L' := [(0, _), (1300, _)]) ?_ ⟨rfl, ⟨rfl, ⟨rfl, ⟨rfl, ⟨rfl, ⟨rfl, ⟨rfl, ⟨rfl, trivial⟩⟩⟩⟩⟩⟩⟩⟩ ⟨rfl, ⟨rfl, trivial⟩⟩
                    refine W_regL (WL_pure rfl rfl (by decide) (Pu_move rfl rfl) (WL_pure rfl rfl (by decide) (Pu_move rfl rfl) (WL_cons rfl rfl (by decide) (OpT_call 1500 [0] [1300] rfl Try.call17 rfl rfl rfl (by decide) (by decide) (total_spec ga room quota B2 _) (fun v105 Ps105 hR105 => ?_)))))
                    obtain ⟨rfl, rfl⟩ := hR105
                    refine (WL_pure rfl rfl (by decide) (Pu_bin rfl rfl rfl (run_neq _ _ _ _ _ _)) (WL_pure rfl rfl (by decide) (Pu_move rfl rfl) (WL_guardP rfl rfl rfl rfl (by decide) (fun hb => (Pu_move rfl rfl)) (WL_guardP rfl rfl rfl rfl (by decide) (fun hb => (Pu_move rfl rfl)) (WL_guardP rfl rfl rfl rfl (by decide) (fun hb => (Pu_bin rfl (ev_gv rfl hb) (ev_gv rfl hb) (run_gtr _ _ _ _ _ _))) (WL_pure rfl rfl (by decide) (Pu_or rfl rfl rfl) (WL_nil (X_then ?_))))))))
                    refine W_false rfl ((by simp; omega)) ?_
                    refine W_skip (X_block (X_then ?_))
                    refine W.pre (K' := [(0, _), (1, _), (2, _), (7, _), (9, _), (13, _), (14, _), (90, _), (111, _)]) (L' := [(0, _), (1500, _)]) ?_ ⟨rfl, ⟨rfl, ⟨rfl, ⟨rfl, ⟨rfl, ⟨rfl, ⟨rfl, ⟨rfl, ⟨rfl, trivial⟩⟩⟩⟩⟩⟩⟩⟩⟩ ⟨rfl, ⟨rfl, trivial⟩⟩
                    refine W_regL (WL_pure rfl rfl (by decide) (Pu_move rfl rfl) (WL_pure rfl rfl (by decide) (Pu_bin rfl rfl rfl (run_add _ _ _ _ _ (by omega))) (WL_pure rfl rfl (by decide) (Pu_assign rfl rfl) (WL_nil ?_))))
                    refine X_ren 1500 500 rfl ?_
                    exact X_round (x.1 + 1, B2) ⟨hb2, by dsimp only; omega, by dsimp only; omega⟩ (by show 80 - (x.1 + 1) < 80 - x.1; omega) ⟨rfl, rfl, rfl, rfl, rfl, trivial⟩ ⟨rfl, rfl, trivial⟩
                ·
                  have he0 : e = 0 := by simpa using hsp12
                  subst he0
                  refine W_regL (WL_pure rfl rfl (by decide) (Pu_move rfl rfl) (WL_pure rfl rfl (by decide) (Pu_bin rfl rfl rfl (run_neq _ _ _ _ _ _)) (WL_pure rfl rfl (by decide) (Pu_move rfl rfl) (WL_gF rfl rfl rfl (by rw [hsp12]; rfl) rfl (by decide) (WL_gF rfl rfl rfl (by rw [hsp12]; rfl) rfl (by decide) (WL_gF rfl rfl rfl (by rw [hsp12]; rfl) rfl (by decide) (WL_gF rfl rfl rfl (by rw [hsp12]; rfl) rfl (by decide) (WL_gF rfl rfl rfl (by rw [hsp12]; rfl) rfl (by decide) (WL_pure rfl rfl (by decide) (Pu_pickF rfl rfl hsp12 rfl) (WL_pure rfl rfl (by decide) (Pu_move rfl rfl) (WL_gPT rfl rfl rfl rfl rfl (by decide) (Pu_move rfl rfl) (WL_gPT rfl rfl rfl rfl rfl (by decide) (Pu_bin rfl rfl rfl (run_neq _ _ _ _ _ _)) (WL_gPT rfl rfl rfl rfl rfl (by decide) (Pu_move rfl rfl) (WL_gF rfl rfl rfl rfl rfl (by decide) (WL_gF rfl rfl rfl rfl rfl (by decide) (WL_gPT rfl rfl rfl rfl rfl (by decide) (Pu_pickF rfl rfl rfl rfl) (WL_gPT rfl rfl rfl rfl rfl (by decide) (Pu_move rfl rfl) (WL_gF rfl rfl rfl rfl rfl (by decide) (WL_gF rfl rfl rfl rfl rfl (by decide) (WL_gPT rfl rfl rfl rfl rfl (by decide) (Pu_pickF rfl rfl rfl rfl) (WL_pure rfl rfl (by decide) (Pu_pickF rfl rfl rfl rfl) (WL_nil (X_then ?_)))))))))))))))))))))))
                  refine W_false rfl ((by first | rfl | (rcases he3 with rfl | rfl <;> rfl))) ?_
                  refine W_skip (X_then ?_)
                  refine W_seq ?_
                  refine W.pre (K' := [(0, _), (1, _), (2, _), (7, _), (9, _), (10, _), (11, _), (12, _), (36, _), (88, _)]) (L' := [(0, _), (501, _), (701, _), (702, _), (1101, _), (1200, _)]) ?_ ⟨rfl, ⟨rfl, ⟨rfl, ⟨rfl, ⟨rfl, ⟨rfl, ⟨rfl, ⟨rfl, ⟨rfl, ⟨rfl, trivial⟩⟩⟩⟩⟩⟩⟩⟩⟩⟩ ⟨rfl, ⟨rfl, ⟨rfl, ⟨rfl, ⟨rfl, ⟨rfl, trivial⟩⟩⟩⟩⟩⟩
                  refine W_regL (WL_pure rfl rfl (by decide) (Pu_assign rfl rfl) (WL_nil (X_then ?_)))
                  refine W_seq ?_
                  refine W_seq ?_
                  refine W.pre (K' := [(0, _), (1, _), (2, _), (7, _), (9, _), (10, _), (11, _), (12, _), (13, _), (36, _), (88, _)]) (L' := [(0, _), (501, _), (701, _), (702, _), (1101, _), (1200, _)]) ?_ ⟨rfl, ⟨rfl, ⟨rfl, ⟨rfl, ⟨rfl, ⟨rfl, ⟨rfl, ⟨rfl, ⟨rfl, ⟨rfl, ⟨rfl, trivial⟩⟩⟩⟩⟩⟩⟩⟩⟩⟩⟩ ⟨rfl, ⟨rfl, ⟨rfl, ⟨rfl, ⟨rfl, ⟨rfl, trivial⟩⟩⟩⟩⟩⟩
                  refine W_regL (WL_pure rfl rfl (by decide) (Pu_assign rfl rfl) (WL_nil (X_then ?_)))
                  refine W_block ?_
                  refine W_loop (α := Nat) (fun y => [(0, .int .i64 room), (1, .int .i64 quota), (2, vc), (7, .pointer (some ⟨ga, 0, none⟩)), (9, .int .i64 (x.1 : Int)), (13, .int .i64 (usum B2 y : Int)), (14, .int .i64 (y : Int))]) (fun y => [(0, orig Wo), (1200, areaP ga room quota B2)]) (fun y => y ≤ 4) (fun y => 4 - y) (0) (by omega) ⟨rfl, ⟨rfl, ⟨rfl, ⟨rfl, ⟨rfl, ⟨rfl, ⟨rfl, trivial⟩⟩⟩⟩⟩⟩⟩ ⟨rfl, ⟨rfl, trivial⟩⟩ (fun y hy => ?_)
                  have hus := usum_le B2 y
                  have hus2 := hb2.used (y : Int)
                  have hut := hb2.tot
                  have hus3 : y * totA B2 ≤ 4 * totA B2 := Nat.mul_le_mul_right _ hy
                  refine W_seq ?_
                  refine W_seq ?_
                  refine W.pre (K' := [(0, _), (1, _), (2, _), (7, _), (9, _), (13, _), (14, _)]) (L' := [(0, _), (1200, _)]) ?_ ⟨rfl, ⟨rfl, ⟨rfl, ⟨rfl, ⟨rfl, ⟨rfl, ⟨rfl, trivial⟩⟩⟩⟩⟩⟩⟩ ⟨rfl, ⟨rfl, trivial⟩⟩
                  refine W_regL (WL_pure rfl rfl (by decide) (Pu_move rfl rfl) (WL_pure rfl rfl (by decide) (Pu_bin rfl rfl rfl (run_lss _ _ _ _ _ _)) (WL_nil (X_then ?_))))
                  refine W_cond rfl (fun hc90 => ?_) (fun hc90 => ?_)
                  ·
                    have hy4 : y < 4 := by have := of_decide_eq_true hc90; omega
                    refine W_skip (X_then ?_)
                    refine W_seq ?_
                    refine W_block ?_
                    refine W_seq ?_
                    refine W_seq ?_
                    refine W.pre (K' := [(0, _), (1, _), (2, _), (7, _), (9, _), (13, _), (14, _), (90, _)]) (L' := [(0, _), (1200, _)]) ?_ ⟨rfl, ⟨rfl, ⟨rfl, ⟨rfl, ⟨rfl, ⟨rfl, ⟨rfl, ⟨rfl, trivial⟩⟩⟩⟩⟩⟩⟩⟩ ⟨rfl, ⟨rfl, trivial⟩⟩
                    refine W_regL (WL_pure rfl rfl (by decide) (Pu_move rfl rfl) (WL_pure rfl rfl (by decide) (Pu_move rfl rfl) (WL_cons rfl rfl (by decide) (OpT_call 1300 [0] [1200] rfl Try.call16 rfl rfl rfl (by decide) (by decide) (used_spec ga room quota (y : Int) B2 _) (fun v95 Ps95 hR95 => ?_)))))
                    obtain ⟨rfl, rfl⟩ := hR95
                    refine (WL_pure rfl rfl (by decide) (Pu_move rfl rfl) (WL_pure rfl rfl (by decide) (Pu_bin rfl rfl rfl (run_gtr _ _ _ _ _ _)) (WL_nil (X_then ?_))))
                    refine W_false rfl ((decide_eq_false (by omega))) ?_
                    refine W_skip (X_then ?_)
                    refine W.pre (K' := [(0, _), (1, _), (2, _), (7, _), (9, _), (13, _), (14, _), (90, _), (97, _)]) (L' := [(0, _), (1300, _)]) ?_ ⟨rfl, ⟨rfl, ⟨rfl, ⟨rfl, ⟨rfl, ⟨rfl, ⟨rfl, ⟨rfl, ⟨rfl, trivial⟩⟩⟩⟩⟩⟩⟩⟩⟩ ⟨rfl, ⟨rfl, trivial⟩⟩
                    refine W_regL (WL_pure rfl rfl (by decide) (Pu_move rfl rfl) (WL_pure rfl rfl (by decide) (Pu_move rfl rfl) (WL_pure rfl rfl (by decide) (Pu_move rfl rfl) (WL_cons rfl rfl (by decide) (OpT_call 1400 [0] [1300] rfl Try.call16 rfl rfl rfl (by decide) (by decide) (used_spec ga room quota (y : Int) B2 _) (fun v101 Ps101 hR101 => ?_))))))
                    obtain ⟨rfl, rfl⟩ := hR101
                    refine (WL_pure rfl rfl (by decide) (Pu_bin rfl rfl rfl (run_add _ _ _ _ _ (by omega))) (WL_pure rfl rfl (by decide) (Pu_assign rfl rfl) (WL_nil (X_block (X_then ?_)))))
                    refine W.pre (K' := [(0, _), (1, _), (2, _), (7, _), (9, _), (13, _), (14, _), (90, _), (97, _)]) (L' := [(0, _), (1400, _)]) ?_ ⟨rfl, ⟨rfl, ⟨rfl, ⟨rfl, ⟨rfl, ⟨rfl, ⟨rfl, ⟨rfl, ⟨rfl, trivial⟩⟩⟩⟩⟩⟩⟩⟩⟩ ⟨rfl, ⟨rfl, trivial⟩⟩
                    refine W_regL (WL_pure rfl rfl (by decide) (Pu_move rfl rfl) (WL_pure rfl rfl (by decide) (Pu_bin rfl rfl rfl (run_add _ _ _ _ _ (by omega))) (WL_pure rfl rfl (by decide) (Pu_assign rfl rfl) (WL_nil ?_))))
                    refine X_ren 1400 1200 rfl ?_
                    exact X_round (y + 1) (by omega) (by omega) ⟨rfl, rfl, rfl, rfl, rfl, lookV_eq rfl (int_eq (by show _ = (((usum B2 y + usedA (y : Int) B2 : Nat)) : Int); omega)), rfl, trivial⟩ ⟨rfl, rfl, trivial⟩
                  ·
                    obtain rfl : y = 4 := by have := of_decide_eq_false hc90; omega
                    have hall := usum_all hb2.src
                    rw [hall]
                    refine W_exit (X_then_exit (X_then_exit (X_block_exit (X_then ?_))))
                    refine W_seq ?_
                    refine W.pre (K' := [(0, _), (1, _), (2, _), (7, _), (9, _), (13, _), (14, _), (90, _)]) (L' := [(0, _), (1200, _)]) ?_ ⟨rfl, ⟨rfl, ⟨rfl, ⟨rfl, ⟨rfl, ⟨rfl, ⟨rfl, ⟨rfl, trivial⟩⟩⟩⟩⟩⟩⟩⟩ ⟨rfl, ⟨rfl, trivial⟩⟩
                    refine W_regL (WL_pure rfl rfl (by decide) (Pu_move rfl rfl) (WL_pure rfl rfl (by decide) (Pu_move rfl rfl) (WL_cons rfl rfl (by decide) (OpT_call 1300 [0] [1200] rfl Try.call17 rfl rfl rfl (by decide) (by decide) (total_spec ga room quota B2 _) (fun v105 Ps105 hR105 => ?_)))))
                    obtain ⟨rfl, rfl⟩ := hR105
                    refine (WL_pure rfl rfl (by decide) (Pu_bin rfl rfl rfl (run_neq _ _ _ _ _ _)) (WL_pure rfl rfl (by decide) (Pu_move rfl rfl) (WL_guardP rfl rfl rfl rfl (by decide) (fun hb => (Pu_move rfl rfl)) (WL_guardP rfl rfl rfl rfl (by decide) (fun hb => (Pu_move rfl rfl)) (WL_guardP rfl rfl rfl rfl (by decide) (fun hb => (Pu_bin rfl (ev_gv rfl hb) (ev_gv rfl hb) (run_gtr _ _ _ _ _ _))) (WL_pure rfl rfl (by decide) (Pu_or rfl rfl rfl) (WL_nil (X_then ?_))))))))
                    refine W_false rfl ((by simp; omega)) ?_
                    refine W_skip (X_block (X_then ?_))
                    refine W.pre (K' := [(0, _), (1, _), (2, _), (7, _), (9, _), (13, _), (14, _), (90, _), (111, _)]) (L' := [(0, _), (1300, _)]) ?_ ⟨rfl, ⟨rfl, ⟨rfl, ⟨rfl, ⟨rfl, ⟨rfl, ⟨rfl, ⟨rfl, ⟨rfl, trivial⟩⟩⟩⟩⟩⟩⟩⟩⟩ ⟨rfl, ⟨rfl, trivial⟩⟩
                    refine W_regL (WL_pure rfl rfl (by decide) (Pu_move rfl rfl) (WL_pure rfl rfl (by decide) (Pu_bin rfl rfl rfl (run_add _ _ _ _ _ (by omega))) (WL_pure rfl rfl (by decide) (Pu_assign rfl rfl) (WL_nil ?_))))
                    refine X_ren 1300 500 rfl ?_
                    exact X_round (x.1 + 1, B2) ⟨hb2, by dsimp only; omega, by dsimp only; omega⟩ (by show 80 - (x.1 + 1) < 80 - x.1; omega) ⟨rfl, rfl, rfl, rfl, rfl, trivial⟩ ⟨rfl, rfl, trivial⟩
              exact AHs_nil
            exact AHs_nil
          exact AHs_nil
        exact AHs_nil
      exact AHs_nil
    exact AHs_nil
  ·
    refine W_exit (X_then_exit (X_then_exit (X_block_exit (X_then ?_))))
    refine W_seq ?_
    refine W.pre (K' := [(0, _), (1, _), (2, _), (7, _), (9, _), (36, _)]) (L' := [(0, _), (500, _)]) ?_ ⟨rfl, ⟨rfl, ⟨rfl, ⟨rfl, ⟨rfl, ⟨rfl, trivial⟩⟩⟩⟩⟩⟩ ⟨rfl, ⟨rfl, trivial⟩⟩
    refine W_regL (WL_pure rfl rfl (by decide) (Pu_assign rfl rfl) (WL_nil (X_then ?_)))
    refine W_ret ?_
    exact X_ret [] (Ps := []) (res1 Try.results3 rfl) rfl (by decide) rfl

theorem areaBounds_any (W : World) (a0 : Int) (lo0 : -9223372036854775808 ≤ a0) (hi0 : a0 ≤ 9223372036854775807) (a1 : Int) (lo1 : -9223372036854775808 ≤ a1) (hi1 : a1 ≤ 9223372036854775807) (v2 : Value) (l2 : List CallA) (hr2 : Rd W 5 v2 l2.length (recC callF l2) ∧ ∀ c ∈ l2, CallOk c) (hl2 : l2.length ≤ maxLen) :
    Calls Try.prog 3 #[.int .i64 a0, .int .i64 a1, v2] W fun e W' => e = .returned (.bool true) ∧ Chg [] W W' := calls_law (areaBounds_law W a0 a1 v2 l2 hr2.1 hr2.2)
end Go.Proofs.Ytjopgnkffhfhkaa
