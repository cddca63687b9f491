/- Texts of this proof, one behind the other: AreaM1, Open3, Open4, AreaH, AreaM. -/
import Derived.Test.YtjopgnkffhfhkaaK5
import Derived.Test.YtjopgnkffhfhkaaK4
import Derived.Test.YtjopgnkffhfhkaaK3
import Derived.SizedLaws
import Derived.Test.YtjopgnkffhfhkaaK2
import Derived.ChangeMaps5
/- Areas: plain words of the law that plays. -/
namespace Go.Proofs.Ytjopgnkffhfhkaa
open Go.RowKit
set_option linter.unusedVariables false
set_option linter.unusedSimpArgs false
theorem area_ok {g : Nat} {room quota : Int} {B : List Bk} {h : Hlt} (hp : areaP g room quota B h) : SortA B ∧ (totA B : Int) ≤ room := by
  obtain ⟨q, hk, hr⟩ := hp
  obtain ⟨p, ⟨hg, _⟩, _⟩ := hr
  refine ⟨hk.sort, ?_⟩
  have := hg.fits
  rw [totE_eq, totA_perm hk.perm] at this
  exact this
theorem putA_len (room quota : Int) (B : List Bk) (b : Bk) (now : Int) : (putA room quota B b now).2.length ≤ B.length + 1 := by
  have h := sweepA_len now B
  unfold putA
  split
  · exact Nat.le_succ _
  · split
    · exact Nat.le_succ _
    · split
      · show (renewA _ _ _).length ≤ _; rw [renewA_len]; omega
      · split
        · show (sweepA now B).length ≤ _; omega
        · split
          · show (sweepA now B).length ≤ _; omega
          · show (insA b _).length ≤ _; rw [insA_len]; omega
theorem CallsS.bare {P : Program} {f : FuncId} {args : Array Value} {F : HP} {Ps : List HP} {R : Value → List HP → Prop} {R' : Value → Prop} (h : CallsS P f args F Ps R) (hR : ∀ v Ps, R v Ps → R' v) : CallsS P f args F Ps (fun v Ps => R' v ∧ Ps = []) :=
  fun E w hS => (h E w hS).mono fun e w' ⟨v, Ps', h1, h2, h3⟩ => ⟨v, [], h1, ⟨hR _ _ h2, rfl⟩, h3.sub (AllIn.look ⟨rfl, trivial⟩)⟩
def badA (room quota : Int) : Bool := ((decide (room < 1) || decide (1073741824 < room)) || decide (quota < 1)) || decide (1073741824 < quota)
def codeA (room quota : Int) : Int := if badA room quota then 1 else 0
theorem newE_spec (room quota : Int) (F : HP) : CallsS Try.prog 10 #[.int .i64 room, .int .i64 quota] F [] (fun r Ps => (∃ p, r = .tuple #[p, .int .i64 (codeA room quota)]) ∧ Ps = []) := by
  cases hb : badA room quota with
  | true => exact (new_bad room quota hb F).bare fun v Ps h => ⟨.pointer none, by rw [h.1]; unfold codeA; rw [hb]; rfl⟩
  | false =>
    have h : 1 ≤ room ∧ room ≤ 1073741824 ∧ 1 ≤ quota ∧ quota ≤ 1073741824 := by
      unfold badA at hb
      simp at hb
      omega
    exact (new_good room quota ⟨h.1, h.2.1⟩ h.2.2 F).bare fun v Ps h => by
      obtain ⟨g, h1, _⟩ := h
      exact ⟨.pointer (some ⟨g, 0, none⟩), by rw [h1]; unfold codeA; rw [hb]; rfl⟩
theorem refNewE_spec (room quota : Int) (F : HP) : CallsS Try.prog 19 #[.int .i64 room, .int .i64 quota] F [] (fun r Ps => (∃ p, r = .tuple #[p, .int .i64 (codeA room quota)]) ∧ Ps = []) := by
  cases hb : badA room quota with
  | true => exact (refNew_bad room quota hb F).bare fun v Ps h => ⟨.pointer none, by rw [h.1]; unfold codeA; rw [hb]; rfl⟩
  | false =>
    have h : 1 ≤ room ∧ room ≤ 1073741824 ∧ 1 ≤ quota ∧ quota ≤ 1073741824 := by
      unfold badA at hb
      simp at hb
      omega
    exact (refNew_good room quota ⟨h.1, h.2.1⟩ h.2.2 F).bare fun v Ps h => by
      obtain ⟨g, h1, _⟩ := h
      exact ⟨.pointer (some ⟨g, 0, none⟩), by rw [h1]; unfold codeA; rw [hb]; rfl⟩
theorem sweep_eq {zs : List EB} {now : Int} : ((zs.map toBk).length : Int) - ((sweepA now (zs.map toBk)).length : Int) = (zs.length : Int) - ((liveE now zs).length : Int) := by
  rw [← liveE_A, List.length_map, List.length_map]
theorem drop_eq {zs : List EB} {k : List UInt8} : (findA k (zs.map toBk)).isSome = decide ((dropZ k zs).length < zs.length) := by
  rw [dropA_lt, ← dropZ_A, List.length_map, List.length_map]
end Go.Proofs.Ytjopgnkffhfhkaa
/- How long an argument may be: the reach. -/
namespace Go.Proofs.Ytjopgnkffhfhkaa
open Go.RowKit Go.ChangeShapes Go.WideShapes Go.Deep
set_option linter.unusedVariables false
section
variable {H : Type} {enc : TypeId × Value → H} {P : Program} {w : World} {base : Nat} {spare : Nat → Bool} {held : Bool}
theorem sz_slice {t e : TypeId} {fuel : Nat} {v : Value} {d : DataW H} {ps : List MemPlace} (ht : P.underlying t = some (.slice e)) (h : DataW.trod enc P w base spare held fuel t [v] = some (d, ps)) (hb : 1 ≤ P.bytesOf e) (hw : ∀ n ∈ d.weights P t, n ≤ reachBytes)
    {n size : Nat} {xs : List Value} (hr : Rd w size v n xs) : n ≤ 140737488351232 := by
  obtain ⟨_, A, c, hv, _⟩ := hr
  rcases open_slice ht h with ⟨h1, _⟩ | ⟨a, len, cap, m, k, D, Pl, h1, hb2, hl, hm, hmm, hx, hi⟩
  · injection h1 with h1
    rw [hv] at h1
    injection h1 with _ h1 _
    omega
  · injection h1 with h1
    rw [hv] at h1
    injection h1 with _ h1 _
    subst h1
    injection hx with hx _
    have := hw _ (show _ ∈ d.weights P t by rw [hx]; unfold DataW.weights; simp only [ht]; exact List.mem_cons_self)
    simp only [List.length_map, List.length_range] at this
    have hle : n ≤ n * P.bytesOf e := Nat.le_mul_of_pos_right _ hb
    have h2 : n * P.bytesOf e ≤ reachBytes := by
      refine Nat.le_trans (Nat.mul_le_mul_right _ ?_) this
      omega
    have : reachBytes = 140737488351232 := rfl
    omega
end
end Go.Proofs.Ytjopgnkffhfhkaa
/- From a reading of an argument to plain facts: strings, slices of strings, slices of slices of ints. -/
namespace Go.Proofs.Ytjopgnkffhfhkaa
open Go.RowKit Go.ChangeShapes Go.WideShapes Go.Deep
set_option linter.unusedVariables false
section
variable {H : Type} {enc : TypeId × Value → H} {P : Program} {w : World} {base b0 : Nat} {spare : Nat → Bool} {held : Bool} {r : Reach} {t : TypeId} {v : Value} {d : DataW H} {ps : List MemPlace}
theorem op_str (ht : P.underlying t = some .string) (hv : Value.okWide P w r b0 t v) (h : DataW.Trod enc P w base spare held t v d ps) : ∃ l : List UInt8, v = sV l ∧ l.length ≤ maxLen := by
  obtain ⟨s, rfl, _, _, hs⟩ := Go.ChangeMaps.open_string ht hv h
  refine ⟨s.data.toList, by rw [sV, ← strB_data], ?_⟩
  rw [← strB_size, ← strB_data]
  exact hs
theorem strs_of (vs : List Value) (h : ∀ u ∈ vs, ∃ l : List UInt8, u = sV l) : ∃ ls : List (List UInt8), vs = ss ls := by
  induction vs with
  | nil => exact ⟨[], rfl⟩
  | cons u vs ih =>
    obtain ⟨ls, rfl⟩ := ih fun u hu => h u (by simp [hu])
    obtain ⟨l, rfl⟩ := h u (by simp)
    exact ⟨l :: ls, rfl⟩
theorem rdS_of {e : TypeId} {fuel : Nat} {x : DataW H × List MemPlace} (ht : P.underlying t = some (.slice e)) (he : P.underlying e = some .string) (hc : P.cellsOf e = 1) (h : DataW.trod enc P w base spare held fuel t [v] = some x) :
    ∃ ls : List (List UInt8), Rd w 1 v ls.length (ss ls) ∧ ls.length ≤ maxLen := by
  obtain ⟨vs, hr, hm, hu⟩ := slice1_of ht hc h
  obtain ⟨ls, rfl⟩ := strs_of vs fun u hmem => by
    obtain ⟨n, y, hy⟩ := hu u hmem
    obtain ⟨s, h1, _⟩ := DataW.trod_string he hy
    injection h1 with h1
    exact ⟨s.data.toList, by rw [sV, ← strB_data, h1]⟩
  rw [ss_length] at hr hm
  exact ⟨ls, hr, hm⟩
theorem rdRI_of {e b : TypeId} {fuel : Nat} {x : DataW H × List MemPlace} (ht : P.underlying t = some (.slice e)) (he : P.underlying e = some (.slice b)) (hb : P.underlying b = some (.int .i64)) (hc : P.cellsOf e = 1) (hcb : P.cellsOf b = 1) (h : DataW.trod enc P w base spare held fuel t [v] = some x) :
    ∃ qs : List (Value × List Int), (Rd w 1 v qs.length (qs.map (·.1)) ∧ ∀ q ∈ qs, Rd w 1 q.1 q.2.length (is q.2)) ∧ qs.length ≤ maxLen := by
  obtain ⟨vs, hr, hm, hu⟩ := slice1_of ht hc h
  obtain ⟨qs, rfl, hq⟩ := pairs_of (R := fun v l => RdI w v l) vs fun u hmem => by
    obtain ⟨n, y, hy⟩ := hu u hmem
    obtain ⟨l, hl, _⟩ := rdI_of he hb hcb hy
    exact ⟨l, hl⟩
  rw [List.length_map] at hr hm
  exact ⟨qs, ⟨hr, hq⟩, hm⟩
end
end Go.Proofs.Ytjopgnkffhfhkaa
/- Areas: the law of bounds. -/
namespace Go.Proofs.Ytjopgnkffhfhkaa
open Go.RowKit
set_option linter.unusedVariables false
set_option linter.unusedSimpArgs false
set_option maxRecDepth 8000

section
open Go.Deep Go.RowKit Go.ChangeShapes Go.WideShapes
variable {H : Type} {enc : TypeId × Value → H} {w : World} {base b0 : Nat} {spare : Nat → Bool} {held : Bool} {r : Reach} {v : Value} {d : DataW H} {ps : List MemPlace}
theorem tr_call {cs : List Value} (hc : Tr enc Try.prog w base spare held 30 cs) : ∃ c : CallA, cs = callF c ∧ CallOk c := by
  obtain ⟨hl, hf⟩ := hc.struct Try.underlying30
  rw [show (Try.prog).cellsOf 30 = 5 by kernel_rfl] at hl
  obtain ⟨a, ha, _, _⟩ := (hf 0 _ rfl).int Try.underlying3
  obtain ⟨b, hb, lb, ub⟩ := (hf 1 _ rfl).int Try.underlying3
  obtain ⟨c, hc', _, _⟩ := (hf 2 _ rfl).int Try.underlying3
  obtain ⟨e, he, _, _⟩ := (hf 3 _ rfl).int Try.underlying3
  obtain ⟨g, hg, _, _⟩ := (hf 4 _ rfl).int Try.underlying3
  replace ha : (cs.drop 0).take ((Try.prog).cellsOf 3) = [.int .i64 a] := ha
  replace hb : (cs.drop 1).take ((Try.prog).cellsOf 3) = [.int .i64 b] := hb
  replace hc' : (cs.drop 2).take ((Try.prog).cellsOf 3) = [.int .i64 c] := hc'
  replace he : (cs.drop 3).take ((Try.prog).cellsOf 3) = [.int .i64 e] := he
  replace hg : (cs.drop 4).take ((Try.prog).cellsOf 3) = [.int .i64 g] := hg
  rw [show (Try.prog).cellsOf 3 = 1 by kernel_rfl] at ha hb hc' he hg
  refine ⟨⟨a, b, c, e, g⟩, ?_, ⟨⟨by simpa using lb, by simpa using ub⟩⟩⟩
  match cs, hl with
  | [x0, x1, x2, x3, x4], hl =>
    simp at ha hb hc' he hg
    rw [ha, hb, hc', he, hg]
    rfl
theorem rdCalls_of {fuel : Nat} {x : DataW H × List MemPlace} (h : DataW.trod enc Try.prog w base spare held fuel 22 [v] = some x) :
    ∃ l : List CallA, (Rd w 5 v l.length (recC callF l) ∧ ∀ c ∈ l, CallOk c) ∧ l.length ≤ maxLen := by
  obtain ⟨rs, h1, h2, h3⟩ := rowsT_of Try.underlying22 (show (Try.prog).cellsOf 30 = 5 by kernel_rfl) (by decide) h
  obtain ⟨l, hl, hok⟩ : ∃ l : List CallA, rs = l.map callF ∧ ∀ c ∈ l, CallOk c := by
    clear h1 h2 h
    induction rs with
    | nil => exact ⟨[], rfl, by simp⟩
    | cons r rs ih =>
      obtain ⟨l, rfl, hok⟩ := ih fun r hr => h3 r (by simp [hr])
      obtain ⟨c, hc, hk⟩ := tr_call (h3 r (by simp)).2
      exact ⟨c :: l, by rw [hc]; rfl, by intro y hy; rcases List.mem_cons.1 hy with rfl | hy; exact hk; exact hok y hy⟩
  subst hl
  rw [List.length_map] at h1 h2
  exact ⟨l, ⟨h1, hok⟩, h2⟩
end
theorem star_dat {Js : List HP} {zs : List EB} (k : Nat) (hk : Js[k]? = some (datP zs)) {h : Hlt} (hs : starL Js h) : datP zs h := fun p hp => rd_star k hk (fun h' h1 => h1 p hp) h hs
theorem areaBounds_law (Wo : World) (room0 quota0 : Int) (vc : Value) (calls : List CallA) (hrc : Rd Wo 5 vc calls.length (recC callF calls)) (hok : ∀ c ∈ calls, CallOk c) :
    CallsS Try.prog 3 #[.int .i64 room0, .int .i64 quota0, vc] (orig Wo) [] (fun v Ps => v = .bool true) := by
  refine callsS_enter Try.func3 rfl Try.ntmps3 (by simp) (fun E => ?_)
  refine W_seq ?_
  refine W.pre (K' := [(0, _), (1, _), (2, _)]) (L' := [(0, _)]) ?_ ⟨rfl, ⟨rfl, ⟨rfl, trivial⟩⟩⟩ ⟨rfl, trivial⟩
  refine W_regL (WL_pure rfl rfl (by decide) (Pu_assign rfl rfl) (WL_nil (X_then ?_)))
  refine W_seq ?_
  refine W_seq ?_
  refine W.pre (K' := [(0, _), (1, _), (2, _), (6, _)]) (L' := [(0, _)]) ?_ ⟨rfl, ⟨rfl, ⟨rfl, ⟨rfl, trivial⟩⟩⟩⟩ ⟨rfl, trivial⟩
  refine W_regL (WL_cons rfl rfl (by decide) (OpT_call 200 [0] [] rfl Try.call8 rfl rfl rfl (by decide) (by decide) (known_spec _) (fun v15 Ps15 hR15 => ?_)))
  obtain ⟨rfl, rfl⟩ := hR15
  refine (WL_pure rfl rfl (by decide) (Pu_un rfl rfl (run_not _)) (WL_nil (X_then ?_)))
  refine W_false rfl (rfl) ?_
  refine W_skip (X_then ?_)
  refine W_seq ?_
  refine W.pre (K' := [(0, _), (1, _), (2, _), (6, _), (16, _)]) (L' := [(0, _)]) ?_ ⟨rfl, ⟨rfl, ⟨rfl, ⟨rfl, ⟨rfl, trivial⟩⟩⟩⟩⟩ ⟨rfl, trivial⟩
  refine W_regL (WL_pure rfl rfl (by decide) (Pu_move rfl rfl) (WL_cons rfl rfl (by decide) (OpT_call 300 [0] [] rfl Try.call9 rfl rfl rfl (by decide) (by decide) (within_spec room0 400 (by omega) (by omega) _) (fun v18 Ps18 hR18 => ?_))))
  obtain ⟨rfl, rfl⟩ := hR18
  refine (WL_pure rfl rfl (by decide) (Pu_bin rfl rfl rfl (run_add _ _ _ _ _ (by omega))) ?_)
  obtain ⟨room, hrd⟩ : ∃ n, 1 + room0 % 400 = n := ⟨_, rfl⟩
  have hr : 1 ≤ room ∧ room ≤ 400 := by omega
  rw [hrd]
  refine (WL_pure rfl rfl (by decide) (Pu_move rfl rfl) (WL_cons rfl rfl (by decide) (OpT_call 400 [0] [] rfl Try.call9 rfl rfl rfl (by decide) (by decide) (within_spec quota0 300 (by omega) (by omega) _) (fun v21 Ps21 hR21 => ?_))))
  obtain ⟨rfl, rfl⟩ := hR21
  refine (WL_pure rfl rfl (by decide) (Pu_bin rfl rfl rfl (run_add _ _ _ _ _ (by omega))) ?_)
  obtain ⟨quota, hqd⟩ : ∃ n, 1 + quota0 % 300 = n := ⟨_, rfl⟩
  have hq : 1 ≤ quota ∧ quota ≤ 300 := by omega
  rw [hqd]
  refine (WL_pure rfl rfl (by decide) (Pu_assign rfl rfl) (WL_pure rfl rfl (by decide) (Pu_assign rfl rfl) (WL_nil (X_then ?_))))
  refine W_seq ?_
  refine W.pre (K' := [(0, _), (1, _), (2, _), (6, _), (16, _)]) (L' := [(0, _)]) ?_ ⟨rfl, ⟨rfl, ⟨rfl, ⟨rfl, ⟨rfl, trivial⟩⟩⟩⟩⟩ ⟨rfl, trivial⟩
  refine W_regL (WL_pure rfl rfl (by decide) (Pu_move rfl rfl) (WL_pure rfl rfl (by decide) (Pu_move rfl rfl) (WL_cons rfl rfl (by decide) (OpT_call 500 [0] [] rfl Try.call10 rfl rfl rfl (by decide) (by decide) (new_good (room) (quota) (by omega) (by omega) _) (fun v26 Ps26 hR26 => ?_)))))
  obtain ⟨ga, rfl, rfl⟩ := hR26
  refine (WL_pure rfl rfl (by decide) (Pu_move rfl rfl) (WL_pure rfl rfl (by decide) (Pu_extract rfl rfl rfl) (WL_pure rfl rfl (by decide) (Pu_extract rfl rfl rfl) (WL_pure rfl rfl (by decide) (Pu_assign rfl rfl) (WL_pure rfl rfl (by decide) (Pu_assign rfl rfl) (WL_nil (X_then ?_)))))))
  refine W_seq ?_
  refine W_seq ?_
  refine W.pre (K' := [(0, _), (1, _), (2, _), (6, _), (7, _), (16, _)]) (L' := [(0, _), (500, _)]) ?_ ⟨rfl, ⟨rfl, ⟨rfl, ⟨rfl, ⟨rfl, ⟨rfl, trivial⟩⟩⟩⟩⟩⟩ ⟨rfl, ⟨rfl, trivial⟩⟩
  refine W_regL (WL_pure rfl rfl (by decide) (Pu_assign rfl rfl) (WL_nil (X_then ?_)))
  refine W_block ?_
  refine W_loop (α := Nat × List Bk) (fun x => [(0, .int .i64 room), (1, .int .i64 quota), (2, vc), (7, .pointer (some ⟨ga, 0, none⟩)), (9, .int .i64 (x.1 : Int))]) (fun x => [(0, orig Wo), (500, areaP ga room quota x.2)]) (fun x => BndI room quota x.2 ∧ x.2.length ≤ x.1 ∧ x.1 ≤ 80) (fun x => 80 - x.1) ((0, [])) ⟨⟨by simp, fun s => by simp [usedA]; omega, by simp [totA]; omega⟩, Nat.le_refl _, by omega⟩ ⟨rfl, ⟨rfl, ⟨rfl, ⟨rfl, ⟨rfl, trivial⟩⟩⟩⟩⟩ ⟨rfl, ⟨rfl, trivial⟩⟩ (fun x hx => ?_)
  obtain ⟨hI, hlen, hx80⟩ := hx
  refine W_seq ?_
  refine W_seq ?_
  refine W.pre (K' := [(0, _), (1, _), (2, _), (7, _), (9, _)]) (L' := [(0, _), (500, _)]) ?_ ⟨rfl, ⟨rfl, ⟨rfl, ⟨rfl, ⟨rfl, trivial⟩⟩⟩⟩⟩ ⟨rfl, ⟨rfl, trivial⟩⟩
  refine W_regL (WL_pure rfl rfl (by decide) (Pu_move rfl rfl) (WL_pure rfl rfl (by decide) (Pu_move rfl rfl) (WL_pure rfl rfl (by decide) (Pu_len (r := 0) rfl Try.runUnderlying22 rfl rfl (fun h hp => Rd.orig hrc h hp)) (WL_pure rfl rfl (by decide) (Pu_bin rfl rfl rfl (run_lss _ _ _ _ _ _)) (WL_pure rfl rfl (by decide) (Pu_move rfl rfl) (WL_guardP rfl rfl rfl rfl (by decide) (fun hb => (Pu_move rfl rfl)) (WL_guardP rfl rfl rfl rfl (by decide) (fun hb => (Pu_bin rfl (ev_gv rfl hb) rfl (run_lss _ _ _ _ _ _))) (WL_pure rfl rfl (by decide) (Pu_and rfl rfl rfl) (WL_nil (X_then ?_))))))))))
  refine W_cond rfl (fun hc36 => ?_) (fun hc36 => ?_)
  ·
    have hi : x.1 < calls.length ∧ x.1 < 80 := by simp at hc36; omega
    obtain ⟨hi1, hi2⟩ := hi
    obtain ⟨c, hcd⟩ : ∃ c, calls.getD x.1 default = c := ⟨_, rfl⟩
    have hck := (hok c (by rw [← hcd]; exact getD_mem' hi1)).key
    refine W_skip (X_then ?_)
    refine W_seq ?_
    refine W_block ?_
    refine W_seq ?_
    refine W.pre (K' := [(0, _), (1, _), (2, _), (7, _), (9, _), (36, _)]) (L' := [(0, _), (500, _)]) ?_ ⟨rfl, ⟨rfl, ⟨rfl, ⟨rfl, ⟨rfl, ⟨rfl, trivial⟩⟩⟩⟩⟩⟩ ⟨rfl, ⟨rfl, trivial⟩⟩
    refine W_regL (WL_pure rfl rfl (by decide) (Pu_move rfl rfl) (WL_pure rfl rfl (by decide) (Pu_move rfl rfl) (WL_pure rfl rfl (by decide) (Pu_idxS (r := 0) rfl Try.runUnderlying22 Try.sizeOf30 rfl rfl rfl (fun h hp => Rd.orig hrc h hp) (by omega)) (WL_pure rfl rfl (by decide) (Pu_loadSN (r := 0) rfl Try.isAgg30 Try.sizeOf30 rfl rfl (fun h hp => Rd.orig hrc h hp) (rfl : (callF (calls.getD x.1 default)).length = 5) (by decide) (call_at (k := x.1) hi1)) ?_))))
    rw [hcd]
    refine (WL_cons rfl rfl (by decide) (OpT_alloc (r := 501) rfl (zero_run (by kernel_rfl : (Try.prog.info? 30).bind (·.zero) = some (.agg (callF ⟨0, 0, 0, 0, 0⟩).toArray))) rfl (fun g501 => (WL_cons0 rfl rfl (OpT_storeAll (r := 501) rfl Try.sizeOf30 rfl rfl rfl rfl rfl (callF_one _) ?_)))))
    refine (WL_nil (X_then ?_))
    refine W_seq ?_
    refine W.pre (K' := [(0, _), (1, _), (2, _), (7, _), (9, _), (10, _), (36, _)]) (L' := [(0, _), (500, _), (501, _)]) ?_ ⟨rfl, ⟨rfl, ⟨rfl, ⟨rfl, ⟨rfl, ⟨rfl, ⟨rfl, trivial⟩⟩⟩⟩⟩⟩⟩ ⟨rfl, ⟨rfl, ⟨rfl, trivial⟩⟩⟩
    refine W_regL (WL_pure rfl rfl (by decide) (Pu_move rfl rfl) (WL_pure rfl rfl (by decide) (Pu_move rfl rfl) (WL_cons rfl rfl (by decide) (OpT_call 600 [0, 501] [500] rfl Try.call11 rfl rfl rfl (by decide) (by decide) (sweep_spec ga room quota (x.1 : Int) x.2 (by omega) _) (fun v45 Ps45 hR45 => ?_)))))
    obtain ⟨rfl, rfl⟩ := hR45
    have hI1 := hI.sweep (x.1 : Int)
    have hl1 := sweepA_len (x.1 : Int) x.2
    have hs1 := sweepA_two (x.1 : Int) x.2
    generalize hB1 : sweepA (x.1 : Int) x.2 = B1 at hI1 hl1 hs1
    refine (WL_nil (X_then ?_))
    refine W_seq ?_
    refine W.pre (K' := [(0, _), (1, _), (2, _), (7, _), (9, _), (10, _), (36, _)]) (L' := [(0, _), (501, _), (600, _)]) ?_ ⟨rfl, ⟨rfl, ⟨rfl, ⟨rfl, ⟨rfl, ⟨rfl, ⟨rfl, trivial⟩⟩⟩⟩⟩⟩⟩ ⟨rfl, ⟨rfl, ⟨rfl, trivial⟩⟩⟩
    refine W_regL (WL_pure rfl rfl (by decide) (Pu_move rfl rfl) (WL_cons rfl rfl (by decide) (OpT_call 700 [0, 501] [600] rfl Try.call12 rfl rfl rfl (by decide) (by decide) (all_spec ga (room) (quota) B1 (by omega) _) (fun v47 Ps47 hR47 => ?_))))
    obtain ⟨zs47, hzs47, rfl⟩ := hR47
    have hzl47 : (zs47.map (fun p : EB => p.1)).length = zs47.length := List.length_map _
    refine (WL_pure rfl rfl (by decide) (Pu_assign rfl rfl) (WL_nil (X_then ?_)))
    refine W_seq ?_
    refine W.pre (K' := [(0, _), (1, _), (2, _), (7, _), (9, _), (10, _), (11, _), (36, _)]) (L' := [(0, _), (501, _), (700, _), (701, _), (702, _)]) ?_ ⟨rfl, ⟨rfl, ⟨rfl, ⟨rfl, ⟨rfl, ⟨rfl, ⟨rfl, ⟨rfl, trivial⟩⟩⟩⟩⟩⟩⟩⟩ ⟨rfl, ⟨rfl, ⟨rfl, ⟨rfl, ⟨rfl, trivial⟩⟩⟩⟩⟩
    refine W_draw (N := 21) (by kernel_rfl) rfl [(0, _), (501, _)] ⟨rfl, ⟨rfl, trivial⟩⟩ ?_
    refine (AH_take 0 rfl (by kernel_rfl) (by kernel_rfl) (by kernel_rfl) rfl rfl (by decide) (Pu_move rfl rfl) (AH_take 1 rfl (by kernel_rfl) (by kernel_rfl) (by kernel_rfl) rfl rfl (by decide) (Pu_fieldAddrB (off := 1) rfl rfl (by kernel_rfl)) (AH_take 2 rfl (by kernel_rfl) (by kernel_rfl) (by kernel_rfl) rfl rfl (by decide) (Pu_loadB (r := 501) rfl Try.isAgg3 rfl rfl rfl) (AH_take 4 rfl (by kernel_rfl) (by kernel_rfl) (by kernel_rfl) rfl rfl (by decide) (Pu_fieldAddrB (off := 2) rfl rfl (by kernel_rfl)) (AH_take 5 rfl (by kernel_rfl) (by kernel_rfl) (by kernel_rfl) rfl rfl (by decide) (Pu_loadB (r := 501) rfl Try.isAgg3 rfl rfl rfl) (AH_take 8 rfl (by kernel_rfl) (by kernel_rfl) (by kernel_rfl) rfl rfl (by decide) (Pu_fieldAddrB (off := 3) rfl rfl (by kernel_rfl)) (AH_take 9 rfl (by kernel_rfl) (by kernel_rfl) (by kernel_rfl) rfl rfl (by decide) (Pu_loadB (r := 501) rfl Try.isAgg3 rfl rfl rfl) (AH_take 11 rfl (by kernel_rfl) (by kernel_rfl) (by kernel_rfl) rfl rfl (by decide) (Pu_move rfl rfl) (AH_take 12 rfl (by kernel_rfl) (by kernel_rfl) (by kernel_rfl) rfl rfl (by decide) (Pu_bin rfl rfl rfl (run_add _ _ _ _ _ (by omega))) (AH_take 13 rfl (by kernel_rfl) (by kernel_rfl) (by kernel_rfl) rfl rfl (by decide) (Pu_fieldAddrB (off := 4) rfl rfl (by kernel_rfl)) (AH_take 14 rfl (by kernel_rfl) (by kernel_rfl) (by kernel_rfl) rfl rfl (by decide) (Pu_loadB (r := 501) rfl Try.isAgg3 rfl rfl rfl) (AH_take 18 rfl (by kernel_rfl) (by kernel_rfl) (by kernel_rfl) rfl rfl (by decide) (Pu_move rfl rfl) (AH_ready [3] (by kernel_rfl) (by decide) ?_)))))))))))))
    refine AHs_cons rfl rfl rfl (by decide) (OpT_call 800 [0, 501, 700, 701, 702] [] rfl Try.call14 rfl rfl rfl (by decide) (by decide) (key_spec c.key hck.1 hck.2 _) (fun v51 Ps51 hR51 => ?_)) ?_
    ·
      obtain ⟨rfl, rfl⟩ := hR51
      refine ⟨⟨rfl, ⟨rfl, trivial⟩⟩, ?_⟩
      refine (AH_ready [6] (by kernel_rfl) (by decide) ?_)
      refine AHs_cons rfl rfl rfl (by decide) (OpT_call 900 [0, 501, 700, 701, 702] [] rfl Try.call9 rfl rfl rfl (by decide) (by decide) (within_spec c.size 150 (by omega) (by omega) _) (fun v54 Ps54 hR54 => ?_)) ?_
      ·
        obtain ⟨rfl, rfl⟩ := hR54
        refine ⟨⟨rfl, ⟨rfl, trivial⟩⟩, ?_⟩
        obtain ⟨n, hn, hn2⟩ : ∃ n : Nat, c.size % 150 = (n : Int) ∧ n < 150 := ⟨(c.size % 150).toNat, by omega, by omega⟩
        rw [hn]
        refine (AH_ready [7, 10] (by kernel_rfl) (by decide) ?_)
        refine AHs_cons rfl rfl rfl (by decide) (OpT_make (r := 901) (m := n) rfl Try.underlying38 TI.hi5 TI.hz5 TI.hs5 rfl rfl (by rw [TI.hby5]; omega) (by unfold maxLen; omega) ((made_one _ _).trans (made_bytes n)) (fun v55 => ?_)) ?_
        ·
          refine ⟨⟨rfl, ⟨rfl, trivial⟩⟩, ?_⟩
          refine AH_fact (r := 901) rfl (fun h hp => rd_one (rowP_rd hp)) (fun ho55 => ?_)
          refine (AH_ready [10] (by kernel_rfl) (by decide) ?_)
          refine AHs_cons rfl rfl rfl (by decide) (OpT_call 1000 [0, 501, 700, 701, 702, 901] [] rfl Try.call9 rfl rfl rfl (by decide) (by decide) (within_spec c.src 4 (by omega) (by omega) _) (fun v58 Ps58 hR58 => ?_)) ?_
          ·
            obtain ⟨rfl, rfl⟩ := hR58
            refine ⟨⟨rfl, ⟨rfl, trivial⟩⟩, ?_⟩
            refine (AH_ready [15] (by kernel_rfl) (by decide) ?_)
            refine AHs_cons rfl rfl rfl (by decide) (OpT_call 1100 [0, 501, 700, 701, 702, 901] [] rfl Try.call9 rfl rfl rfl (by decide) (by decide) (within_spec c.dur 20 (by omega) (by omega) _) (fun v63 Ps63 hR63 => ?_)) ?_
            ·
              obtain ⟨rfl, rfl⟩ := hR63
              refine ⟨⟨rfl, ⟨rfl, trivial⟩⟩, ?_⟩
              refine (AH_take 16 rfl (by kernel_rfl) (by kernel_rfl) (by kernel_rfl) rfl rfl (by decide) (Pu_bin rfl rfl rfl (run_add _ _ _ _ _ (by omega))) (AH_take 17 rfl (by kernel_rfl) (by kernel_rfl) (by kernel_rfl) rfl rfl (by decide) (Pu_bk (keyA_length c.key) ho55 rfl rfl (.k (keyA_length c.key) (.d ho55 (.s (.e (.nil _)))))) (AH_ready [19] (by kernel_rfl) (by decide) ?_)))
              refine AHs_cons rfl rfl rfl (by decide) (OpT_call 1200 [0, 501, 701, 702, 901] [700] rfl Try.call13 rfl rfl rfl (by decide) (by decide) (put_spec ga room quota (x.1 : Int) B1 (by omega) (mkB (keyA c.key) v55 (c.src % 4) ((x.1 : Int) + 1 + c.dur % 20) (keyA_length c.key) ho55) (List.replicate n 0) _ (rd_star 4 rfl (fun h hp => rdP_cast (rowP_rd hp) rfl (List.length_replicate).symm))) (fun v67 Ps67 hR67 => ?_)) ?_
              ·
                obtain ⟨rfl, rfl⟩ := hR67
                refine ⟨⟨rfl, ⟨rfl, trivial⟩⟩, ?_⟩
                obtain ⟨e, B2, hp, hb2, hl2, he⟩ := bnd_put (now := (x.1 : Int)) (b := ⟨keyA c.key, List.replicate n 0, c.src % 4, (x.1 : Int) + 1 + c.dur % 20⟩) hI1 (by dsimp only; omega) (by dsimp only; omega) (by simp; omega) hs1
                rw [toBk_mk, hp]
                refine (AH_take 20 rfl (by kernel_rfl) (by kernel_rfl) (by kernel_rfl) rfl rfl (by decide) (Pu_assign rfl rfl) (AH_done (by kernel_rfl) (X_then ?_)))
                refine W_seq ?_
                refine W_seq ?_
                refine W.pre (K' := [(0, _), (1, _), (2, _), (7, _), (9, _), (10, _), (11, _), (12, _), (36, _)]) (L' := [(0, _), (501, _), (701, _), (702, _), (901, _), (1200, _)]) ?_ ⟨rfl, ⟨rfl, ⟨rfl, ⟨rfl, ⟨rfl, ⟨rfl, ⟨rfl, ⟨rfl, ⟨rfl, trivial⟩⟩⟩⟩⟩⟩⟩⟩⟩ ⟨rfl, ⟨rfl, ⟨rfl, ⟨rfl, ⟨rfl, ⟨rfl, trivial⟩⟩⟩⟩⟩⟩
                rcases Bool.eq_false_or_eq_true (!(decide (e = 0))) with hsp12 | hsp12
                ·
                  have hne : e ≠ 0 := by simpa using hsp12
                  have he2 : (e = 15 ∨ e = 16) ∧ B2 = B1 := by rcases he with h | h; exact absurd h hne; exact h
                  obtain ⟨he3, rfl⟩ := he2
                  refine W_regL (WL_pure rfl rfl (by decide) (Pu_move rfl rfl) (WL_pure rfl rfl (by decide) (Pu_bin rfl rfl rfl (run_neq _ _ _ _ _ _)) (WL_pure rfl rfl (by decide) (Pu_move rfl rfl) (WL_gPT rfl rfl rfl (by rw [hsp12]; rfl) rfl (by decide) (Pu_move rfl rfl) (WL_gT rfl rfl rfl (by rw [hsp12]; rfl) rfl (by decide) (OpT_call 1300 [0, 501, 701, 702, 901] [1200] rfl Try.call12 rfl rfl rfl (by decide) (by decide) (all_spec ga (room) (quota) B2 (by omega) _) (fun v72 Ps72 hR72 => ?_)))))))
                  obtain ⟨zs72, hzs72, rfl⟩ := hR72
                  have hzl72 : (zs72.map (fun p : EB => p.1)).length = zs72.length := List.length_map _
                  refine (WL_gPT rfl rfl rfl (by rw [hsp12]; rfl) rfl (by decide) (Pu_move rfl rfl) (WL_gT rfl rfl rfl (by rw [hsp12]; rfl) rfl (by decide) (OpT_call 1400 [0, 501, 701, 702, 901, 1300, 1301, 1302] [] rfl Try.call15 rfl rfl rfl (by decide) (by decide) (same_spec v72 v47 zs72 zs47 (by rw [hzs72, hzs47]) (by have := congrArg List.length hzs72; rw [List.length_map] at this; omega) _ (rd_star 6 rfl (fun _ hp => rowP_rd hp)) (fun h hs => star_dat 7 rfl hs) (rd_star 2 rfl (fun _ hp => rowP_rd hp)) (fun h hs => star_dat 3 rfl hs)) (fun v74 Ps74 hR74 => ?_))))
                  obtain ⟨rfl, rfl⟩ := hR74
                  refine (WL_gPT rfl rfl rfl (by rw [hsp12]; rfl) rfl (by decide) (Pu_un rfl rfl (run_not _)) (WL_pure rfl rfl (by decide) (Pu_pickT rfl rfl hsp12 rfl) (WL_pure rfl rfl (by decide) (Pu_move rfl rfl) (WL_gPT rfl rfl rfl rfl rfl (by decide) (Pu_move rfl rfl) (WL_gPT rfl rfl rfl rfl rfl (by decide) (Pu_bin rfl rfl rfl (run_neq _ _ _ _ _ _)) (WL_gPT rfl rfl rfl rfl rfl (by decide) (Pu_move rfl rfl) (WL_gPT rfl rfl rfl (by simp [hne]) rfl (by decide) (Pu_move rfl rfl) (WL_gPT rfl rfl rfl (by simp [hne]) rfl (by decide) (Pu_bin rfl rfl rfl (run_neq _ _ _ _ _ _)) (WL_gPT rfl rfl rfl rfl rfl (by decide) (Pu_pickT rfl rfl (by simp [hne]) rfl) (WL_gPT rfl rfl rfl rfl rfl (by decide) (Pu_move rfl rfl) (WL_guardP rfl rfl rfl rfl (by decide) (fun hb => (Pu_move rfl rfl)) (WL_guardP rfl rfl rfl rfl (by decide) (fun hb => (Pu_bin rfl (ev_gv rfl hb) rfl (run_neq _ _ _ _ _ _))) (WL_gPT rfl rfl rfl rfl rfl (by decide) (Pu_and rfl rfl rfl) (WL_pure rfl rfl (by decide) (Pu_pickF rfl rfl rfl rfl) (WL_nil (X_then ?_))))))))))))))))
                  refine W_false rfl ((by first | rfl | (rcases he3 with rfl | rfl <;> rfl))) ?_
                  refine W_skip (X_then ?_)
                  refine W_seq ?_
                  refine W.pre (K' := [(0, _), (1, _), (2, _), (7, _), (9, _), (10, _), (11, _), (12, _), (36, _), (88, _)]) (L' := [(0, _), (501, _), (701, _), (702, _), (901, _), (1300, _), (1301, _), (1302, _)]) ?_ ⟨rfl, ⟨rfl, ⟨rfl, ⟨rfl, ⟨rfl, ⟨rfl, ⟨rfl, ⟨rfl, ⟨rfl, ⟨rfl, trivial⟩⟩⟩⟩⟩⟩⟩⟩⟩⟩ ⟨rfl, ⟨rfl, ⟨rfl, ⟨rfl, ⟨rfl, ⟨rfl, ⟨rfl, ⟨rfl, trivial⟩⟩⟩⟩⟩⟩⟩⟩
                  refine W_regL (WL_pure rfl rfl (by decide) (Pu_assign rfl rfl) (WL_nil (X_then ?_)))
                  refine W_seq ?_
                  refine W_seq ?_
                  refine W.pre (K' := [(0, _), (1, _), (2, _), (7, _), (9, _), (10, _), (11, _), (12, _), (13, _), (36, _), (88, _)]) (L' := [(0, _), (501, _), (701, _), (702, _), (901, _), (1300, _), (1301, _), (1302, _)]) ?_ ⟨rfl, ⟨rfl, ⟨rfl, ⟨rfl, ⟨rfl, ⟨rfl, ⟨rfl, ⟨rfl, ⟨rfl, ⟨rfl, ⟨rfl, trivial⟩⟩⟩⟩⟩⟩⟩⟩⟩⟩⟩ ⟨rfl, ⟨rfl, ⟨rfl, ⟨rfl, ⟨rfl, ⟨rfl, ⟨rfl, ⟨rfl, trivial⟩⟩⟩⟩⟩⟩⟩⟩
                  refine W_regL (WL_pure rfl rfl (by decide) (Pu_assign rfl rfl) (WL_nil (X_then ?_)))
                  refine W_block ?_
                  refine W_loop (α := Nat) (fun y => [(0, .int .i64 room), (1, .int .i64 quota), (2, vc), (7, .pointer (some ⟨ga, 0, none⟩)), (9, .int .i64 (x.1 : Int)), (13, .int .i64 (usum B2 y : Int)), (14, .int .i64 (y : Int))]) (fun y => [(0, orig Wo), (1300, areaP ga room quota B2)]) (fun y => y ≤ 4) (fun y => 4 - y) (0) (by omega) ⟨rfl, ⟨rfl, ⟨rfl, ⟨rfl, ⟨rfl, ⟨rfl, ⟨rfl, trivial⟩⟩⟩⟩⟩⟩⟩ ⟨rfl, ⟨rfl, trivial⟩⟩ (fun y hy => ?_)
                  have hus := usum_le B2 y
                  have hus2 := hb2.used (y : Int)
                  have hut := hb2.tot
                  have hus3 : y * totA B2 ≤ 4 * totA B2 := Nat.mul_le_mul_right _ hy
                  refine W_seq ?_
                  refine W_seq ?_
                  refine W.pre (K' := [(0, _), (1, _), (2, _), (7, _), (9, _), (13, _), (14, _)]) (L' := [(0, _), (1300, _)]) ?_ ⟨rfl, ⟨rfl, ⟨rfl, ⟨rfl, ⟨rfl, ⟨rfl, ⟨rfl, trivial⟩⟩⟩⟩⟩⟩⟩ ⟨rfl, ⟨rfl, trivial⟩⟩
                  refine W_regL (WL_pure rfl rfl (by decide) (Pu_move rfl rfl) (WL_pure rfl rfl (by decide) (Pu_bin rfl rfl rfl (run_lss _ _ _ _ _ _)) (WL_nil (X_then ?_))))
                  refine W_cond rfl (fun hc90 => ?_) (fun hc90 => ?_)
                  ·
                    have hy4 : y < 4 := by have := of_decide_eq_true hc90; omega
                    refine W_skip (X_then ?_)
                    refine W_seq ?_
                    refine W_block ?_
                    refine W_seq ?_
                    refine W_seq ?_
                    refine W.pre (K' := [(0, _), (1, _), (2, _), (7, _), (9, _), (13, _), (14, _), (90, _)]) (L' := [(0, _), (1300, _)]) ?_ ⟨rfl, ⟨rfl, ⟨rfl, ⟨rfl, ⟨rfl, ⟨rfl, ⟨rfl, ⟨rfl, trivial⟩⟩⟩⟩⟩⟩⟩⟩ ⟨rfl, ⟨rfl, trivial⟩⟩
                    refine W_regL (WL_pure rfl rfl (by decide) (Pu_move rfl rfl) (WL_pure rfl rfl (by decide) (Pu_move rfl rfl) (WL_cons rfl rfl (by decide) (OpT_call 1500 [0] [1300] rfl Try.call16 rfl rfl rfl (by decide) (by decide) (used_spec ga room quota (y : Int) B2 _) (fun v95 Ps95 hR95 => ?_)))))
                    obtain ⟨rfl, rfl⟩ := hR95
                    refine (WL_pure rfl rfl (by decide) (Pu_move rfl rfl) (WL_pure rfl rfl (by decide) (Pu_bin rfl rfl rfl (run_gtr _ _ _ _ _ _)) (WL_nil (X_then ?_))))
                    refine W_false rfl ((decide_eq_false (by omega))) ?_
                    refine W_skip (X_then ?_)
                    refine W.pre (K' := [(0, _), (1, _), (2, _), (7, _), (9, _), (13, _), (14, _), (90, _), (97, _)]) (L' := [(0, _), (1500, _)]) ?_ ⟨rfl, ⟨rfl, ⟨rfl, ⟨rfl, ⟨rfl, ⟨rfl, ⟨rfl, ⟨rfl, ⟨rfl, trivial⟩⟩⟩⟩⟩⟩⟩⟩⟩ ⟨rfl, ⟨rfl, trivial⟩⟩
                    refine W_regL (WL_pure rfl rfl (by decide) (Pu_move rfl rfl) (WL_pure rfl rfl (by decide) (Pu_move rfl rfl) (WL_pure rfl rfl (by decide) (Pu_move rfl rfl) (WL_cons rfl rfl (by decide) (OpT_call 1600 [0] [1500] rfl Try.call16 rfl rfl rfl (by decide) (by decide) (used_spec ga room quota (y : Int) B2 _) (fun v101 Ps101 hR101 => ?_))))))
                    obtain ⟨rfl, rfl⟩ := hR101
                    refine (WL_pure rfl rfl (by decide) (Pu_bin rfl rfl rfl (run_add _ _ _ _ _ (by omega))) (WL_pure rfl rfl (by decide) (Pu_assign rfl rfl) (WL_nil (X_block (X_then ?_)))))
                    refine W.pre (K' := [(0, _), (1, _), (2, _), (7, _), (9, _), (13, _), (14, _), (90, _), (97, _)]) (L' := [(0, _), (1600, _)]) ?_ ⟨rfl, ⟨rfl, ⟨rfl, ⟨rfl, ⟨rfl, ⟨rfl, ⟨rfl, ⟨rfl, ⟨rfl, trivial⟩⟩⟩⟩⟩⟩⟩⟩⟩ ⟨rfl, ⟨rfl, trivial⟩⟩
                    refine W_regL (WL_pure rfl rfl (by decide) (Pu_move rfl rfl) (WL_pure rfl rfl (by decide) (Pu_bin rfl rfl rfl (run_add _ _ _ _ _ (by omega))) (WL_pure rfl rfl (by decide) (Pu_assign rfl rfl) (WL_nil ?_))))
                    refine X_ren 1600 1300 rfl ?_
                    exact X_round (y + 1) (by omega) (by omega) ⟨rfl, rfl, rfl, rfl, rfl, lookV_eq rfl (int_eq (by show _ = (((usum B2 y + usedA (y : Int) B2 : Nat)) : Int); omega)), rfl, trivial⟩ ⟨rfl, rfl, trivial⟩
                  ·
                    obtain rfl : y = 4 := by have := of_decide_eq_false hc90; omega
                    have hall := usum_all hb2.src
                    rw [hall]
                    refine W_exit (X_then_exit (X_then_exit (X_block_exit (X_then ?_))))
                    refine W_seq ?_
                    refine W.pre (K' := [(0, _), (1, _), (2, _), (7, _), (9, _), (13, _), (14, _), (90, _)]) (L' := [(0, _), (1300, _)]) ?_ ⟨rfl, ⟨rfl, ⟨rfl, ⟨rfl, ⟨rfl, ⟨rfl, ⟨rfl, ⟨rfl, trivial⟩⟩⟩⟩⟩⟩⟩⟩ ⟨rfl, ⟨rfl, trivial⟩⟩
                    refine W_regL (WL_pure rfl rfl (by decide) (Pu_move rfl rfl) (WL_pure rfl rfl (by decide) (Pu_move rfl rfl) (WL_cons rfl rfl (by decide) (OpT_call 1500 [0] [1300] rfl Try.call17 rfl rfl rfl (by decide) (by decide) (total_spec ga room quota B2 _) (fun v105 Ps105 hR105 => ?_)))))
                    obtain ⟨rfl, rfl⟩ := hR105
                    refine (WL_pure rfl rfl (by decide) (Pu_bin rfl rfl rfl (run_neq _ _ _ _ _ _)) (WL_pure rfl rfl (by decide) (Pu_move rfl rfl) (WL_guardP rfl rfl rfl rfl (by decide) (fun hb => (Pu_move rfl rfl)) (WL_guardP rfl rfl rfl rfl (by decide) (fun hb => (Pu_move rfl rfl)) (WL_guardP rfl rfl rfl rfl (by decide) (fun hb => (Pu_bin rfl (ev_gv rfl hb) (ev_gv rfl hb) (run_gtr _ _ _ _ _ _))) (WL_pure rfl rfl (by decide) (Pu_or rfl rfl rfl) (WL_nil (X_then ?_))))))))
                    refine W_false rfl ((by simp; omega)) ?_
                    refine W_skip (X_block (X_then ?_))
                    refine W.pre (K' := [(0, _), (1, _), (2, _), (7, _), (9, _), (13, _), (14, _), (90, _), (111, _)]) (L' := [(0, _), (1500, _)]) ?_ ⟨rfl, ⟨rfl, ⟨rfl, ⟨rfl, ⟨rfl, ⟨rfl, ⟨rfl, ⟨rfl, ⟨rfl, trivial⟩⟩⟩⟩⟩⟩⟩⟩⟩ ⟨rfl, ⟨rfl, trivial⟩⟩
                    refine W_regL (WL_pure rfl rfl (by decide) (Pu_move rfl rfl) (WL_pure rfl rfl (by decide) (Pu_bin rfl rfl rfl (run_add _ _ _ _ _ (by omega))) (WL_pure rfl rfl (by decide) (Pu_assign rfl rfl) (WL_nil ?_))))
                    refine X_ren 1500 500 rfl ?_
                    exact X_round (x.1 + 1, B2) ⟨hb2, by dsimp only; omega, by dsimp only; omega⟩ (by show 80 - (x.1 + 1) < 80 - x.1; omega) ⟨rfl, rfl, rfl, rfl, rfl, trivial⟩ ⟨rfl, rfl, trivial⟩
                ·
                  have he0 : e = 0 := by simpa using hsp12
                  subst he0
                  refine W_regL (WL_pure rfl rfl (by decide) (Pu_move rfl rfl) (WL_pure rfl rfl (by decide) (Pu_bin rfl rfl rfl (run_neq _ _ _ _ _ _)) (WL_pure rfl rfl (by decide) (Pu_move rfl rfl) (WL_gF rfl rfl rfl (by rw [hsp12]; rfl) rfl (by decide) (WL_gF rfl rfl rfl (by rw [hsp12]; rfl) rfl (by decide) (WL_gF rfl rfl rfl (by rw [hsp12]; rfl) rfl (by decide) (WL_gF rfl rfl rfl (by rw [hsp12]; rfl) rfl (by decide) (WL_gF rfl rfl rfl (by rw [hsp12]; rfl) rfl (by decide) (WL_pure rfl rfl (by decide) (Pu_pickF rfl rfl hsp12 rfl) (WL_pure rfl rfl (by decide) (Pu_move rfl rfl) (WL_gPT rfl rfl rfl rfl rfl (by decide) (Pu_move rfl rfl) (WL_gPT rfl rfl rfl rfl rfl (by decide) (Pu_bin rfl rfl rfl (run_neq _ _ _ _ _ _)) (WL_gPT rfl rfl rfl rfl rfl (by decide) (Pu_move rfl rfl) (WL_gF rfl rfl rfl rfl rfl (by decide) (WL_gF rfl rfl rfl rfl rfl (by decide) (WL_gPT rfl rfl rfl rfl rfl (by decide) (Pu_pickF rfl rfl rfl rfl) (WL_gPT rfl rfl rfl rfl rfl (by decide) (Pu_move rfl rfl) (WL_gF rfl rfl rfl rfl rfl (by decide) (WL_gF rfl rfl rfl rfl rfl (by decide) (WL_gPT rfl rfl rfl rfl rfl (by decide) (Pu_pickF rfl rfl rfl rfl) (WL_pure rfl rfl (by decide) (Pu_pickF rfl rfl rfl rfl) (WL_nil (X_then ?_)))))))))))))))))))))))
                  refine W_false rfl ((by first | rfl | (rcases he3 with rfl | rfl <;> rfl))) ?_
                  refine W_skip (X_then ?_)
                  refine W_seq ?_
                  refine W.pre (K' := [(0, _), (1, _), (2, _), (7, _), (9, _), (10, _), (11, _), (12, _), (36, _), (88, _)]) (L' := [(0, _), (501, _), (701, _), (702, _), (901, _), (1200, _)]) ?_ ⟨rfl, ⟨rfl, ⟨rfl, ⟨rfl, ⟨rfl, ⟨rfl, ⟨rfl, ⟨rfl, ⟨rfl, ⟨rfl, trivial⟩⟩⟩⟩⟩⟩⟩⟩⟩⟩ ⟨rfl, ⟨rfl, ⟨rfl, ⟨rfl, ⟨rfl, ⟨rfl, trivial⟩⟩⟩⟩⟩⟩
                  refine W_regL (WL_pure rfl rfl (by decide) (Pu_assign rfl rfl) (WL_nil (X_then ?_)))
                  refine W_seq ?_
                  refine W_seq ?_
                  refine W.pre (K' := [(0, _), (1, _), (2, _), (7, _), (9, _), (10, _), (11, _), (12, _), (13, _), (36, _), (88, _)]) (L' := [(0, _), (501, _), (701, _), (702, _), (901, _), (1200, _)]) ?_ ⟨rfl, ⟨rfl, ⟨rfl, ⟨rfl, ⟨rfl, ⟨rfl, ⟨rfl, ⟨rfl, ⟨rfl, ⟨rfl, ⟨rfl, trivial⟩⟩⟩⟩⟩⟩⟩⟩⟩⟩⟩ ⟨rfl, ⟨rfl, ⟨rfl, ⟨rfl, ⟨rfl, ⟨rfl, trivial⟩⟩⟩⟩⟩⟩
                  refine W_regL (WL_pure rfl rfl (by decide) (Pu_assign rfl rfl) (WL_nil (X_then ?_)))
                  refine W_block ?_
                  refine W_loop (α := Nat) (fun y => [(0, .int .i64 room), (1, .int .i64 quota), (2, vc), (7, .pointer (some ⟨ga, 0, none⟩)), (9, .int .i64 (x.1 : Int)), (13, .int .i64 (usum B2 y : Int)), (14, .int .i64 (y : Int))]) (fun y => [(0, orig Wo), (1200, areaP ga room quota B2)]) (fun y => y ≤ 4) (fun y => 4 - y) (0) (by omega) ⟨rfl, ⟨rfl, ⟨rfl, ⟨rfl, ⟨rfl, ⟨rfl, ⟨rfl, trivial⟩⟩⟩⟩⟩⟩⟩ ⟨rfl, ⟨rfl, trivial⟩⟩ (fun y hy => ?_)
                  have hus := usum_le B2 y
                  have hus2 := hb2.used (y : Int)
                  have hut := hb2.tot
                  have hus3 : y * totA B2 ≤ 4 * totA B2 := Nat.mul_le_mul_right _ hy
                  refine W_seq ?_
                  refine W_seq ?_
                  refine W.pre (K' := [(0, _), (1, _), (2, _), (7, _), (9, _), (13, _), (14, _)]) (L' := [(0, _), (1200, _)]) ?_ ⟨rfl, ⟨rfl, ⟨rfl, ⟨rfl, ⟨rfl, ⟨rfl, ⟨rfl, trivial⟩⟩⟩⟩⟩⟩⟩ ⟨rfl, ⟨rfl, trivial⟩⟩
                  refine W_regL (WL_pure rfl rfl (by decide) (Pu_move rfl rfl) (WL_pure rfl rfl (by decide) (Pu_bin rfl rfl rfl (run_lss _ _ _ _ _ _)) (WL_nil (X_then ?_))))
                  refine W_cond rfl (fun hc90 => ?_) (fun hc90 => ?_)
                  ·
                    have hy4 : y < 4 := by have := of_decide_eq_true hc90; omega
                    refine W_skip (X_then ?_)
                    refine W_seq ?_
                    refine W_block ?_
                    refine W_seq ?_
                    refine W_seq ?_
                    refine W.pre (K' := [(0, _), (1, _), (2, _), (7, _), (9, _), (13, _), (14, _), (90, _)]) (L' := [(0, _), (1200, _)]) ?_ ⟨rfl, ⟨rfl, ⟨rfl, ⟨rfl, ⟨rfl, ⟨rfl, ⟨rfl, ⟨rfl, trivial⟩⟩⟩⟩⟩⟩⟩⟩ ⟨rfl, ⟨rfl, trivial⟩⟩
                    refine W_regL (WL_pure rfl rfl (by decide) (Pu_move rfl rfl) (WL_pure rfl rfl (by decide) (Pu_move rfl rfl) (WL_cons rfl rfl (by decide) (OpT_call 1300 [0] [1200] rfl Try.call16 rfl rfl rfl (by decide) (by decide) (used_spec ga room quota (y : Int) B2 _) (fun v95 Ps95 hR95 => ?_)))))
                    obtain ⟨rfl, rfl⟩ := hR95
                    refine (WL_pure rfl rfl (by decide) (Pu_move rfl rfl) (WL_pure rfl rfl (by decide) (Pu_bin rfl rfl rfl (run_gtr _ _ _ _ _ _)) (WL_nil (X_then ?_))))
                    refine W_false rfl ((decide_eq_false (by omega))) ?_
                    refine W_skip (X_then ?_)
                    refine W.pre (K' := [(0, _), (1, _), (2, _), (7, _), (9, _), (13, _), (14, _), (90, _), (97, _)]) (L' := [(0, _), (1300, _)]) ?_ ⟨rfl, ⟨rfl, ⟨rfl, ⟨rfl, ⟨rfl, ⟨rfl, ⟨rfl, ⟨rfl, ⟨rfl, trivial⟩⟩⟩⟩⟩⟩⟩⟩⟩ ⟨rfl, ⟨rfl, trivial⟩⟩
                    refine W_regL (WL_pure rfl rfl (by decide) (Pu_move rfl rfl) (WL_pure rfl rfl (by decide) (Pu_move rfl rfl) (WL_pure rfl rfl (by decide) (Pu_move rfl rfl) (WL_cons rfl rfl (by decide) (OpT_call 1400 [0] [1300] rfl Try.call16 rfl rfl rfl (by decide) (by decide) (used_spec ga room quota (y : Int) B2 _) (fun v101 Ps101 hR101 => ?_))))))
                    obtain ⟨rfl, rfl⟩ := hR101
                    refine (WL_pure rfl rfl (by decide) (Pu_bin rfl rfl rfl (run_add _ _ _ _ _ (by omega))) (WL_pure rfl rfl (by decide) (Pu_assign rfl rfl) (WL_nil (X_block (X_then ?_)))))
                    refine W.pre (K' := [(0, _), (1, _), (2, _), (7, _), (9, _), (13, _), (14, _), (90, _), (97, _)]) (L' := [(0, _), (1400, _)]) ?_ ⟨rfl, ⟨rfl, ⟨rfl, ⟨rfl, ⟨rfl, ⟨rfl, ⟨rfl, ⟨rfl, ⟨rfl, trivial⟩⟩⟩⟩⟩⟩⟩⟩⟩ ⟨rfl, ⟨rfl, trivial⟩⟩
                    refine W_regL (WL_pure rfl rfl (by decide) (Pu_move rfl rfl) (WL_pure rfl rfl (by decide) (Pu_bin rfl rfl rfl (run_add _ _ _ _ _ (by omega))) (WL_pure rfl rfl (by decide) (Pu_assign rfl rfl) (WL_nil ?_))))
                    refine X_ren 1400 1200 rfl ?_
                    exact X_round (y + 1) (by omega) (by omega) ⟨rfl, rfl, rfl, rfl, rfl, lookV_eq rfl (int_eq (by show _ = (((usum B2 y + usedA (y : Int) B2 : Nat)) : Int); omega)), rfl, trivial⟩ ⟨rfl, rfl, trivial⟩
                  ·
                    obtain rfl : y = 4 := by have := of_decide_eq_false hc90; omega
                    have hall := usum_all hb2.src
                    rw [hall]
                    refine W_exit (X_then_exit (X_then_exit (X_block_exit (X_then ?_))))
                    refine W_seq ?_
                    refine W.pre (K' := [(0, _), (1, _), (2, _), (7, _), (9, _), (13, _), (14, _), (90, _)]) (L' := [(0, _), (1200, _)]) ?_ ⟨rfl, ⟨rfl, ⟨rfl, ⟨rfl, ⟨rfl, ⟨rfl, ⟨rfl, ⟨rfl, trivial⟩⟩⟩⟩⟩⟩⟩⟩ ⟨rfl, ⟨rfl, trivial⟩⟩
                    refine W_regL (WL_pure rfl rfl (by decide) (Pu_move rfl rfl) (WL_pure rfl rfl (by decide) (Pu_move rfl rfl) (WL_cons rfl rfl (by decide) (OpT_call 1300 [0] [1200] rfl Try.call17 rfl rfl rfl (by decide) (by decide) (total_spec ga room quota B2 _) (fun v105 Ps105 hR105 => ?_)))))
                    obtain ⟨rfl, rfl⟩ := hR105
                    refine (WL_pure rfl rfl (by decide) (Pu_bin rfl rfl rfl (run_neq _ _ _ _ _ _)) (WL_pure rfl rfl (by decide) (Pu_move rfl rfl) (WL_guardP rfl rfl rfl rfl (by decide) (fun hb => (Pu_move rfl rfl)) (WL_guardP rfl rfl rfl rfl (by decide) (fun hb => (Pu_move rfl rfl)) (WL_guardP rfl rfl rfl rfl (by decide) (fun hb => (Pu_bin rfl (ev_gv rfl hb) (ev_gv rfl hb) (run_gtr _ _ _ _ _ _))) (WL_pure rfl rfl (by decide) (Pu_or rfl rfl rfl) (WL_nil (X_then ?_))))))))
                    refine W_false rfl ((by simp; omega)) ?_
                    refine W_skip (X_block (X_then ?_))
                    refine W.pre (K' := [(0, _), (1, _), (2, _), (7, _), (9, _), (13, _), (14, _), (90, _), (111, _)]) (L' := [(0, _), (1300, _)]) ?_ ⟨rfl, ⟨rfl, ⟨rfl, ⟨rfl, ⟨rfl, ⟨rfl, ⟨rfl, ⟨rfl, ⟨rfl, trivial⟩⟩⟩⟩⟩⟩⟩⟩⟩ ⟨rfl, ⟨rfl, trivial⟩⟩
                    refine W_regL (WL_pure rfl rfl (by decide) (Pu_move rfl rfl) (WL_pure rfl rfl (by decide) (Pu_bin rfl rfl rfl (run_add _ _ _ _ _ (by omega))) (WL_pure rfl rfl (by decide) (Pu_assign rfl rfl) (WL_nil ?_))))
                    refine X_ren 1300 500 rfl ?_
                    exact X_round (x.1 + 1, B2) ⟨hb2, by dsimp only; omega, by dsimp only; omega⟩ (by show 80 - (x.1 + 1) < 80 - x.1; omega) ⟨rfl, rfl, rfl, rfl, rfl, trivial⟩ ⟨rfl, rfl, trivial⟩
              exact AHs_nil
            exact AHs_nil
          exact AHs_nil
        refine AHs_cons rfl rfl rfl (by decide) (OpT_call 1000 [0, 501, 700, 701, 702] [] rfl Try.call9 rfl rfl rfl (by decide) (by decide) (within_spec c.src 4 (by omega) (by omega) _) (fun v58 Ps58 hR58 => ?_)) ?_
        ·
          obtain ⟨rfl, rfl⟩ := hR58
          refine ⟨⟨rfl, ⟨rfl, trivial⟩⟩, ?_⟩
          refine (AH_ready [7, 15] (by kernel_rfl) (by decide) ?_)
          refine AHs_cons rfl rfl rfl (by decide) (OpT_make (r := 1001) (m := n) rfl Try.underlying38 TI.hi5 TI.hz5 TI.hs5 rfl rfl (by rw [TI.hby5]; omega) (by unfold maxLen; omega) ((made_one _ _).trans (made_bytes n)) (fun v55 => ?_)) ?_
          ·
            refine ⟨⟨rfl, ⟨rfl, trivial⟩⟩, ?_⟩
            refine AH_fact (r := 1001) rfl (fun h hp => rd_one (rowP_rd hp)) (fun ho55 => ?_)
            refine (AH_ready [15] (by kernel_rfl) (by decide) ?_)
            refine AHs_cons rfl rfl rfl (by decide) (OpT_call 1100 [0, 501, 700, 701, 702, 1001] [] rfl Try.call9 rfl rfl rfl (by decide) (by decide) (within_spec c.dur 20 (by omega) (by omega) _) (fun v63 Ps63 hR63 => ?_)) ?_
            ·
              obtain ⟨rfl, rfl⟩ := hR63
              refine ⟨⟨rfl, ⟨rfl, trivial⟩⟩, ?_⟩
              refine (AH_take 16 rfl (by kernel_rfl) (by kernel_rfl) (by kernel_rfl) rfl rfl (by decide) (Pu_bin rfl rfl rfl (run_add _ _ _ _ _ (by omega))) (AH_take 17 rfl (by kernel_rfl) (by kernel_rfl) (by kernel_rfl) rfl rfl (by decide) (Pu_bk (keyA_length c.key) ho55 rfl rfl (.k (keyA_length c.key) (.d ho55 (.s (.e (.nil _)))))) (AH_ready [19] (by kernel_rfl) (by decide) ?_)))
              refine AHs_cons rfl rfl rfl (by decide) (OpT_call 1200 [0, 501, 701, 702, 1001] [700] rfl Try.call13 rfl rfl rfl (by decide) (by decide) (put_spec ga room quota (x.1 : Int) B1 (by omega) (mkB (keyA c.key) v55 (c.src % 4) ((x.1 : Int) + 1 + c.dur % 20) (keyA_length c.key) ho55) (List.replicate n 0) _ (rd_star 4 rfl (fun h hp => rdP_cast (rowP_rd hp) rfl (List.length_replicate).symm))) (fun v67 Ps67 hR67 => ?_)) ?_
              ·
                obtain ⟨rfl, rfl⟩ := hR67
                refine ⟨⟨rfl, ⟨rfl, trivial⟩⟩, ?_⟩
                obtain ⟨e, B2, hp, hb2, hl2, he⟩ := bnd_put (now := (x.1 : Int)) (b := ⟨keyA c.key, List.replicate n 0, c.src % 4, (x.1 : Int) + 1 + c.dur % 20⟩) hI1 (by dsimp only; omega) (by dsimp only; omega) (by simp; omega) hs1
                rw [toBk_mk, hp]
                refine (AH_take 20 rfl (by kernel_rfl) (by kernel_rfl) (by kernel_rfl) rfl rfl (by decide) (Pu_assign rfl rfl) (AH_done (by kernel_rfl) (X_then ?_)))
                refine W_seq ?_
                refine W_seq ?_
                refine W.pre (K' := [(0, _), (1, _), (2, _), (7, _), (9, _), (10, _), (11, _), (12, _), (36, _)]) (L' := [(0, _), (501, _), (701, _), (702, _), (1001, _), (1200, _)]) ?_ ⟨rfl, ⟨rfl, ⟨rfl, ⟨rfl, ⟨rfl, ⟨rfl, ⟨rfl, ⟨rfl, ⟨rfl, trivial⟩⟩⟩⟩⟩⟩⟩⟩⟩ ⟨rfl, ⟨rfl, ⟨rfl, ⟨rfl, ⟨rfl, ⟨rfl, trivial⟩⟩⟩⟩⟩⟩
                rcases Bool.eq_false_or_eq_true (!(decide (e = 0))) with hsp12 | hsp12
                ·
                  have hne : e ≠ 0 := by simpa using hsp12
                  have he2 : (e = 15 ∨ e = 16) ∧ B2 = B1 := by rcases he with h | h; exact absurd h hne; exact h
                  obtain ⟨he3, rfl⟩ := he2
                  refine W_regL (WL_pure rfl rfl (by decide) (Pu_move rfl rfl) (WL_pure rfl rfl (by decide) (Pu_bin rfl rfl rfl (run_neq _ _ _ _ _ _)) (WL_pure rfl rfl (by decide) (Pu_move rfl rfl) (WL_gPT rfl rfl rfl (by rw [hsp12]; rfl) rfl (by decide) (Pu_move rfl rfl) (WL_gT rfl rfl rfl (by rw [hsp12]; rfl) rfl (by decide) (OpT_call 1300 [0, 501, 701, 702, 1001] [1200] rfl Try.call12 rfl rfl rfl (by decide) (by decide) (all_spec ga (room) (quota) B2 (by omega) _) (fun v72 Ps72 hR72 => ?_)))))))
                  obtain ⟨zs72, hzs72, rfl⟩ := hR72
                  have hzl72 : (zs72.map (fun p : EB => p.1)).length = zs72.length := List.length_map _
                  refine (WL_gPT rfl rfl rfl (by rw [hsp12]; rfl) rfl (by decide) (Pu_move rfl rfl) (WL_gT rfl rfl rfl (by rw [hsp12]; rfl) rfl (by decide) (OpT_call 1400 [0, 501, 701, 702, 1001, 1300, 1301, 1302] [] rfl Try.call15 rfl rfl rfl (by decide) (by decide) (same_spec v72 v47 zs72 zs47 (by rw [hzs72, hzs47]) (by have := congrArg List.length hzs72; rw [List.length_map] at this; omega) _ (rd_star 6 rfl (fun _ hp => rowP_rd hp)) (fun h hs => star_dat 7 rfl hs) (rd_star 2 rfl (fun _ hp => rowP_rd hp)) (fun h hs => star_dat 3 rfl hs)) (fun v74 Ps74 hR74 => ?_))))
                  obtain ⟨rfl, rfl⟩ := hR74
                  refine (WL_gPT rfl rfl rfl (by rw [hsp12]; rfl) rfl (by decide) (Pu_un rfl rfl (run_not _)) (WL_pure rfl rfl (by decide) (Pu_pickT rfl rfl hsp12 rfl) (WL_pure rfl rfl (by decide) (Pu_move rfl rfl) (WL_gPT rfl rfl rfl rfl rfl (by decide) (Pu_move rfl rfl) (WL_gPT rfl rfl rfl rfl rfl (by decide) (Pu_bin rfl rfl rfl (run_neq _ _ _ _ _ _)) (WL_gPT rfl rfl rfl rfl rfl (by decide) (Pu_move rfl rfl) (WL_gPT rfl rfl rfl (by simp [hne]) rfl (by decide) (Pu_move rfl rfl) (WL_gPT rfl rfl rfl (by simp [hne]) rfl (by decide) (Pu_bin rfl rfl rfl (run_neq _ _ _ _ _ _)) (WL_gPT rfl rfl rfl rfl rfl (by decide) (Pu_pickT rfl rfl (by simp [hne]) rfl) (WL_gPT rfl rfl rfl rfl rfl (by decide) (Pu_move rfl rfl) (WL_guardP rfl rfl rfl rfl (by decide) (fun hb => (Pu_move rfl rfl)) (WL_guardP rfl rfl rfl rfl (by decide) (fun hb => (Pu_bin rfl (ev_gv rfl hb) rfl (run_neq _ _ _ _ _ _))) (WL_gPT rfl rfl rfl rfl rfl (by decide) (Pu_and rfl rfl rfl) (WL_pure rfl rfl (by decide) (Pu_pickF rfl rfl rfl rfl) (WL_nil (X_then ?_))))))))))))))))
                  refine W_false rfl ((by first | rfl | (rcases he3 with rfl | rfl <;> rfl))) ?_
                  refine W_skip (X_then ?_)
                  refine W_seq ?_
                  refine W.pre (K' := [(0, _), (1, _), (2, _), (7, _), (9, _), (10, _), (11, _), (12, _), (36, _), (88, _)]) (L' := [(0, _), (501, _), (701, _), (702, _), (1001, _), (1300, _), (1301, _), (1302, _)]) ?_ ⟨rfl, ⟨rfl, ⟨rfl, ⟨rfl, ⟨rfl, ⟨rfl, ⟨rfl, ⟨rfl, ⟨rfl, ⟨rfl, trivial⟩⟩⟩⟩⟩⟩⟩⟩⟩⟩ ⟨rfl, ⟨rfl, ⟨rfl, ⟨rfl, ⟨rfl, ⟨rfl, ⟨rfl, ⟨rfl, trivial⟩⟩⟩⟩⟩⟩⟩⟩
                  refine W_regL (WL_pure rfl rfl (by decide) (Pu_assign rfl rfl) (WL_nil (X_then ?_)))
                  refine W_seq ?_
                  refine W_seq ?_
                  refine W.pre (K' := [(0, _), (1, _), (2, _), (7, _), (9, _), (10, _), (11, _), (12, _), (13, _), (36, _), (88, _)]) (L' := [(0, _), (501, _), (701, _), (702, _), (1001, _), (1300, _), (1301, _), (1302, _)]) ?_ ⟨rfl, ⟨rfl, ⟨rfl, ⟨rfl, ⟨rfl, ⟨rfl, ⟨rfl, ⟨rfl, ⟨rfl, ⟨rfl, ⟨rfl, trivial⟩⟩⟩⟩⟩⟩⟩⟩⟩⟩⟩ ⟨rfl, ⟨rfl, ⟨rfl, ⟨rfl, ⟨rfl, ⟨rfl, ⟨rfl, ⟨rfl, trivial⟩⟩⟩⟩⟩⟩⟩⟩
                  refine W_regL (WL_pure rfl rfl (by decide) (Pu_assign rfl rfl) (WL_nil (X_then ?_)))
                  refine W_block ?_
                  refine W_loop (α := Nat) (fun y => [(0, .int .i64 room), (1, .int .i64 quota), (2, vc), (7, .pointer (some ⟨ga, 0, none⟩)), (9, .int .i64 (x.1 : Int)), (13, .int .i64 (usum B2 y : Int)), (14, .int .i64 (y : Int))]) (fun y => [(0, orig Wo), (1300, areaP ga room quota B2)]) (fun y => y ≤ 4) (fun y => 4 - y) (0) (by omega) ⟨rfl, ⟨rfl, ⟨rfl, ⟨rfl, ⟨rfl, ⟨rfl, ⟨rfl, trivial⟩⟩⟩⟩⟩⟩⟩ ⟨rfl, ⟨rfl, trivial⟩⟩ (fun y hy => ?_)
                  have hus := usum_le B2 y
                  have hus2 := hb2.used (y : Int)
                  have hut := hb2.tot
                  have hus3 : y * totA B2 ≤ 4 * totA B2 := Nat.mul_le_mul_right _ hy
                  refine W_seq ?_
                  refine W_seq ?_
                  refine W.pre (K' := [(0, _), (1, _), (2, _), (7, _), (9, _), (13, _), (14, _)]) (L' := [(0, _), (1300, _)]) ?_ ⟨rfl, ⟨rfl, ⟨rfl, ⟨rfl, ⟨rfl, ⟨rfl, ⟨rfl, trivial⟩⟩⟩⟩⟩⟩⟩ ⟨rfl, ⟨rfl, trivial⟩⟩
                  refine W_regL (WL_pure rfl rfl (by decide) (Pu_move rfl rfl) (WL_pure rfl rfl (by decide) (Pu_bin rfl rfl rfl (run_lss _ _ _ _ _ _)) (WL_nil (X_then ?_))))
                  refine W_cond rfl (fun hc90 => ?_) (fun hc90 => ?_)
                  ·
                    have hy4 : y < 4 := by have := of_decide_eq_true hc90; omega
                    refine W_skip (X_then ?_)
                    refine W_seq ?_
                    refine W_block ?_
                    refine W_seq ?_
                    refine W_seq ?_
                    refine W.pre (K' := [(0, _), (1, _), (2, _), (7, _), (9, _), (13, _), (14, _), (90, _)]) (L' := [(0, _), (1300, _)]) ?_ ⟨rfl, ⟨rfl, ⟨rfl, ⟨rfl, ⟨rfl, ⟨rfl, ⟨rfl, ⟨rfl, trivial⟩⟩⟩⟩⟩⟩⟩⟩ ⟨rfl, ⟨rfl, trivial⟩⟩
                    refine W_regL (WL_pure rfl rfl (by decide) (Pu_move rfl rfl) (WL_pure rfl rfl (by decide) (Pu_move rfl rfl) (WL_cons rfl rfl (by decide) (OpT_call 1500 [0] [1300] rfl Try.call16 rfl rfl rfl (by decide) (by decide) (used_spec ga room quota (y : Int) B2 _) (fun v95 Ps95 hR95 => ?_)))))
                    obtain ⟨rfl, rfl⟩ := hR95
                    refine (WL_pure rfl rfl (by decide) (Pu_move rfl rfl) (WL_pure rfl rfl (by decide) (Pu_bin rfl rfl rfl (run_gtr _ _ _ _ _ _)) (WL_nil (X_then ?_))))
                    refine W_false rfl ((decide_eq_false (by omega))) ?_
                    refine W_skip (X_then ?_)
                    refine W.pre (K' := [(0, _), (1, _), (2, _), (7, _), (9, _), (13, _), (14, _), (90, _), (97, _)]) (L' := [(0, _), (1500, _)]) ?_ ⟨rfl, ⟨rfl, ⟨rfl, ⟨rfl, ⟨rfl, ⟨rfl, ⟨rfl, ⟨rfl, ⟨rfl, trivial⟩⟩⟩⟩⟩⟩⟩⟩⟩ ⟨rfl, ⟨rfl, trivial⟩⟩
                    refine W_regL (WL_pure rfl rfl (by decide) (Pu_move rfl rfl) (WL_pure rfl rfl (by decide) (Pu_move rfl rfl) (WL_pure rfl rfl (by decide) (Pu_move rfl rfl) (WL_cons rfl rfl (by decide) (OpT_call 1600 [0] [1500] rfl Try.call16 rfl rfl rfl (by decide) (by decide) (used_spec ga room quota (y : Int) B2 _) (fun v101 Ps101 hR101 => ?_))))))
                    obtain ⟨rfl, rfl⟩ := hR101
                    refine (WL_pure rfl rfl (by decide) (Pu_bin rfl rfl rfl (run_add _ _ _ _ _ (by omega))) (WL_pure rfl rfl (by decide) (Pu_assign rfl rfl) (WL_nil (X_block (X_then ?_)))))
                    refine W.pre (K' := [(0, _), (1, _), (2, _), (7, _), (9, _), (13, _), (14, _), (90, _), (97, _)]) (L' := [(0, _), (1600, _)]) ?_ ⟨rfl, ⟨rfl, ⟨rfl, ⟨rfl, ⟨rfl, ⟨rfl, ⟨rfl, ⟨rfl, ⟨rfl, trivial⟩⟩⟩⟩⟩⟩⟩⟩⟩ ⟨rfl, ⟨rfl, trivial⟩⟩
                    refine W_regL (WL_pure rfl rfl (by decide) (Pu_move rfl rfl) (WL_pure rfl rfl (by decide) (Pu_bin rfl rfl rfl (run_add _ _ _ _ _ (by omega))) (WL_pure rfl rfl (by decide) (Pu_assign rfl rfl) (WL_nil ?_))))
                    refine X_ren 1600 1300 rfl ?_
                    exact X_round (y + 1) (by omega) (by omega) ⟨rfl, rfl, rfl, rfl, rfl, lookV_eq rfl (int_eq (by show _ = (((usum B2 y + usedA (y : Int) B2 : Nat)) : Int); omega)), rfl, trivial⟩ ⟨rfl, rfl, trivial⟩
                  ·
                    obtain rfl : y = 4 := by have := of_decide_eq_false hc90; omega
                    have hall := usum_all hb2.src
                    rw [hall]
                    refine W_exit (X_then_exit (X_then_exit (X_block_exit (X_then ?_))))
                    refine W_seq ?_
                    refine W.pre (K' := [(0, _), (1, _), (2, _), (7, _), (9, _), (13, _), (14, _), (90, _)]) (L' := [(0, _), (1300, _)]) ?_ ⟨rfl, ⟨rfl, ⟨rfl, ⟨rfl, ⟨rfl, ⟨rfl, ⟨rfl, ⟨rfl, trivial⟩⟩⟩⟩⟩⟩⟩⟩ ⟨rfl, ⟨rfl, trivial⟩⟩
                    refine W_regL (WL_pure rfl rfl (by decide) (Pu_move rfl rfl) (WL_pure rfl rfl (by decide) (Pu_move rfl rfl) (WL_cons rfl rfl (by decide) (OpT_call 1500 [0] [1300] rfl Try.call17 rfl rfl rfl (by decide) (by decide) (total_spec ga room quota B2 _) (fun v105 Ps105 hR105 => ?_)))))
                    obtain ⟨rfl, rfl⟩ := hR105
                    refine (WL_pure rfl rfl (by decide) (Pu_bin rfl rfl rfl (run_neq _ _ _ _ _ _)) (WL_pure rfl rfl (by decide) (Pu_move rfl rfl) (WL_guardP rfl rfl rfl rfl (by decide) (fun hb => (Pu_move rfl rfl)) (WL_guardP rfl rfl rfl rfl (by decide) (fun hb => (Pu_move rfl rfl)) (WL_guardP rfl rfl rfl rfl (by decide) (fun hb => (Pu_bin rfl (ev_gv rfl hb) (ev_gv rfl hb) (run_gtr _ _ _ _ _ _))) (WL_pure rfl rfl (by decide) (Pu_or rfl rfl rfl) (WL_nil (X_then ?_))))))))
                    refine W_false rfl ((by simp; omega)) ?_
                    refine W_skip (X_block (X_then ?_))
                    refine W.pre (K' := [(0, _), (1, _), (2, _), (7, _), (9, _), (13, _), (14, _), (90, _), (111, _)]) (L' := [(0, _), (1500, _)]) ?_ ⟨rfl, ⟨rfl, ⟨rfl, ⟨rfl, ⟨rfl, ⟨rfl, ⟨rfl, ⟨rfl, ⟨rfl, trivial⟩⟩⟩⟩⟩⟩⟩⟩⟩ ⟨rfl, ⟨rfl, trivial⟩⟩
                    refine W_regL (WL_pure rfl rfl (by decide) (Pu_move rfl rfl) (WL_pure rfl rfl (by decide) (Pu_bin rfl rfl rfl (run_add _ _ _ _ _ (by omega))) (WL_pure rfl rfl (by decide) (Pu_assign rfl rfl) (WL_nil ?_))))
                    refine X_ren 1500 500 rfl ?_
                    exact X_round (x.1 + 1, B2) ⟨hb2, by dsimp only; omega, by dsimp only; omega⟩ (by show 80 - (x.1 + 1) < 80 - x.1; omega) ⟨rfl, rfl, rfl, rfl, rfl, trivial⟩ ⟨rfl, rfl, trivial⟩
                ·
                  have he0 : e = 0 := by simpa using hsp12
                  subst he0
                  refine W_regL (WL_pure rfl rfl (by decide) (Pu_move rfl rfl) (WL_pure rfl rfl (by decide) (Pu_bin rfl rfl rfl (run_neq _ _ _ _ _ _)) (WL_pure rfl rfl (by decide) (Pu_move rfl rfl) (WL_gF rfl rfl rfl (by rw [hsp12]; rfl) rfl (by decide) (WL_gF rfl rfl rfl (by rw [hsp12]; rfl) rfl (by decide) (WL_gF rfl rfl rfl (by rw [hsp12]; rfl) rfl (by decide) (WL_gF rfl rfl rfl (by rw [hsp12]; rfl) rfl (by decide) (WL_gF rfl rfl rfl (by rw [hsp12]; rfl) rfl (by decide) (WL_pure rfl rfl (by decide) (Pu_pickF rfl rfl hsp12 rfl) (WL_pure rfl rfl (by decide) (Pu_move rfl rfl) (WL_gPT rfl rfl rfl rfl rfl (by decide) (Pu_move rfl rfl) (WL_gPT rfl rfl rfl rfl rfl (by decide) (Pu_bin rfl rfl rfl (run_neq _ _ _ _ _ _)) (WL_gPT rfl rfl rfl rfl rfl (by decide) (Pu_move rfl rfl) (WL_gF rfl rfl rfl rfl rfl (by decide) (WL_gF rfl rfl rfl rfl rfl (by decide) (WL_gPT rfl rfl rfl rfl rfl (by decide) (Pu_pickF rfl rfl rfl rfl) (WL_gPT rfl rfl rfl rfl rfl (by decide) (Pu_move rfl rfl) (WL_gF rfl rfl rfl rfl rfl (by decide) (WL_gF rfl rfl rfl rfl rfl (by decide) (WL_gPT rfl rfl rfl rfl rfl (by decide) (Pu_pickF rfl rfl rfl rfl) (WL_pure rfl rfl (by decide) (Pu_pickF rfl rfl rfl rfl) (WL_nil (X_then ?_)))))))))))))))))))))))
                  refine W_false rfl ((by first | rfl | (rcases he3 with rfl | rfl <;> rfl))) ?_
                  refine W_skip (X_then ?_)
                  refine W_seq ?_
                  refine W.pre (K' := [(0, _), (1, _), (2, _), (7, _), (9, _), (10, _), (11, _), (12, _), (36, _), (88, _)]) (L' := [(0, _), (501, _), (701, _), (702, _), (1001, _), (1200, _)]) ?_ ⟨rfl, ⟨rfl, ⟨rfl, ⟨rfl, ⟨rfl, ⟨rfl, ⟨rfl, ⟨rfl, ⟨rfl, ⟨rfl, trivial⟩⟩⟩⟩⟩⟩⟩⟩⟩⟩ ⟨rfl, ⟨rfl, ⟨rfl, ⟨rfl, ⟨rfl, ⟨rfl, trivial⟩⟩⟩⟩⟩⟩
                  refine W_regL (WL_pure rfl rfl (by decide) (Pu_assign rfl rfl) (WL_nil (X_then ?_)))
                  refine W_seq ?_
                  refine W_seq ?_
                  refine W.pre (K' := [(0, _), (1, _), (2, _), (7, _), (9, _), (10, _), (11, _), (12, _), (13, _), (36, _), (88, _)]) (L' := [(0, _), (501, _), (701, _), (702, _), (1001, _), (1200, _)]) ?_ ⟨rfl, ⟨rfl, ⟨rfl, ⟨rfl, ⟨rfl, ⟨rfl, ⟨rfl, ⟨rfl, ⟨rfl, ⟨rfl, ⟨rfl, trivial⟩⟩⟩⟩⟩⟩⟩⟩⟩⟩⟩ ⟨rfl, ⟨rfl, ⟨rfl, ⟨rfl, ⟨rfl, ⟨rfl, trivial⟩⟩⟩⟩⟩⟩
                  refine W_regL (WL_pure rfl rfl (by decide) (Pu_assign rfl rfl) (WL_nil (X_then ?_)))
                  refine W_block ?_
                  refine W_loop (α := Nat) (fun y => [(0, .int .i64 room), (1, .int .i64 quota), (2, vc), (7, .pointer (some ⟨ga, 0, none⟩)), (9, .int .i64 (x.1 : Int)), (13, .int .i64 (usum B2 y : Int)), (14, .int .i64 (y : Int))]) (fun y => [(0, orig Wo), (1200, areaP ga room quota B2)]) (fun y => y ≤ 4) (fun y => 4 - y) (0) (by omega) ⟨rfl, ⟨rfl, ⟨rfl, ⟨rfl, ⟨rfl, ⟨rfl, ⟨rfl, trivial⟩⟩⟩⟩⟩⟩⟩ ⟨rfl, ⟨rfl, trivial⟩⟩ (fun y hy => ?_)
                  have hus := usum_le B2 y
                  have hus2 := hb2.used (y : Int)
                  have hut := hb2.tot
                  have hus3 : y * totA B2 ≤ 4 * totA B2 := Nat.mul_le_mul_right _ hy
                  refine W_seq ?_
                  refine W_seq ?_
                  refine W.pre (K' := [(0, _), (1, _), (2, _), (7, _), (9, _), (13, _), (14, _)]) (L' := [(0, _), (1200, _)]) ?_ ⟨rfl, ⟨rfl, ⟨rfl, ⟨rfl, ⟨rfl, ⟨rfl, ⟨rfl, trivial⟩⟩⟩⟩⟩⟩⟩ ⟨rfl, ⟨rfl, trivial⟩⟩
                  refine W_regL (WL_pure rfl rfl (by decide) (Pu_move rfl rfl) (WL_pure rfl rfl (by decide) (Pu_bin rfl rfl rfl (run_lss _ _ _ _ _ _)) (WL_nil (X_then ?_))))
                  refine W_cond rfl (fun hc90 => ?_) (fun hc90 => ?_)
                  ·
                    have hy4 : y < 4 := by have := of_decide_eq_true hc90; omega
                    refine W_skip (X_then ?_)
                    refine W_seq ?_
                    refine W_block ?_
                    refine W_seq ?_
                    refine W_seq ?_
                    refine W.pre (K' := [(0, _), (1, _), (2, _), (7, _), (9, _), (13, _), (14, _), (90, _)]) (L' := [(0, _), (1200, _)]) ?_ ⟨rfl, ⟨rfl, ⟨rfl, ⟨rfl, ⟨rfl, ⟨rfl, ⟨rfl, ⟨rfl, trivial⟩⟩⟩⟩⟩⟩⟩⟩ ⟨rfl, ⟨rfl, trivial⟩⟩
                    refine W_regL (WL_pure rfl rfl (by decide) (Pu_move rfl rfl) (WL_pure rfl rfl (by decide) (Pu_move rfl rfl) (WL_cons rfl rfl (by decide) (OpT_call 1300 [0] [1200] rfl Try.call16 rfl rfl rfl (by decide) (by decide) (used_spec ga room quota (y : Int) B2 _) (fun v95 Ps95 hR95 => ?_)))))
                    obtain ⟨rfl, rfl⟩ := hR95
                    refine (WL_pure rfl rfl (by decide) (Pu_move rfl rfl) (WL_pure rfl rfl (by decide) (Pu_bin rfl rfl rfl (run_gtr _ _ _ _ _ _)) (WL_nil (X_then ?_))))
                    refine W_false rfl ((decide_eq_false (by omega))) ?_
                    refine W_skip (X_then ?_)
                    refine W.pre (K' := [(0, _), (1, _), (2, _), (7, _), (9, _), (13, _), (14, _), (90, _), (97, _)]) (L' := [(0, _), (1300, _)]) ?_ ⟨rfl, ⟨rfl, ⟨rfl, ⟨rfl, ⟨rfl, ⟨rfl, ⟨rfl, ⟨rfl, ⟨rfl, trivial⟩⟩⟩⟩⟩⟩⟩⟩⟩ ⟨rfl, ⟨rfl, trivial⟩⟩
                    refine W_regL (WL_pure rfl rfl (by decide) (Pu_move rfl rfl) (WL_pure rfl rfl (by decide) (Pu_move rfl rfl) (WL_pure rfl rfl (by decide) (Pu_move rfl rfl) (WL_cons rfl rfl (by decide) (OpT_call 1400 [0] [1300] rfl Try.call16 rfl rfl rfl (by decide) (by decide) (used_spec ga room quota (y : Int) B2 _) (fun v101 Ps101 hR101 => ?_))))))
                    obtain ⟨rfl, rfl⟩ := hR101
                    refine (WL_pure rfl rfl (by decide) (Pu_bin rfl rfl rfl (run_add _ _ _ _ _ (by omega))) (WL_pure rfl rfl (by decide) (Pu_assign rfl rfl) (WL_nil (X_block (X_then ?_)))))
                    refine W.pre (K' := [(0, _), (1, _), (2, _), (7, _), (9, _), (13, _), (14, _), (90, _), (97, _)]) (L' := [(0, _), (1400, _)]) ?_ ⟨rfl, ⟨rfl, ⟨rfl, ⟨rfl, ⟨rfl, ⟨rfl, ⟨rfl, ⟨rfl, ⟨rfl, trivial⟩⟩⟩⟩⟩⟩⟩⟩⟩ ⟨rfl, ⟨rfl, trivial⟩⟩
                    refine W_regL (WL_pure rfl rfl (by decide) (Pu_move rfl rfl) (WL_pure rfl rfl (by decide) (Pu_bin rfl rfl rfl (run_add _ _ _ _ _ (by omega))) (WL_pure rfl rfl (by decide) (Pu_assign rfl rfl) (WL_nil ?_))))
                    refine X_ren 1400 1200 rfl ?_
                    exact X_round (y + 1) (by omega) (by omega) ⟨rfl, rfl, rfl, rfl, rfl, lookV_eq rfl (int_eq (by show _ = (((usum B2 y + usedA (y : Int) B2 : Nat)) : Int); omega)), rfl, trivial⟩ ⟨rfl, rfl, trivial⟩
                  ·
                    obtain rfl : y = 4 := by have := of_decide_eq_false hc90; omega
                    have hall := usum_all hb2.src
                    rw [hall]
                    refine W_exit (X_then_exit (X_then_exit (X_block_exit (X_then ?_))))
                    refine W_seq ?_
                    refine W.pre (K' := [(0, _), (1, _), (2, _), (7, _), (9, _), (13, _), (14, _), (90, _)]) (L' := [(0, _), (1200, _)]) ?_ ⟨rfl, ⟨rfl, ⟨rfl, ⟨rfl, ⟨rfl, ⟨rfl, ⟨rfl, ⟨rfl, trivial⟩⟩⟩⟩⟩⟩⟩⟩ ⟨rfl, ⟨rfl, trivial⟩⟩
                    refine W_regL (WL_pure rfl rfl (by decide) (Pu_move rfl rfl) (WL_pure rfl rfl (by decide) (Pu_move rfl rfl) (WL_cons rfl rfl (by decide) (OpT_call 1300 [0] [1200] rfl Try.call17 rfl rfl rfl (by decide) (by decide) (total_spec ga room quota B2 _) (fun v105 Ps105 hR105 => ?_)))))
                    obtain ⟨rfl, rfl⟩ := hR105
                    refine (WL_pure rfl rfl (by decide) (Pu_bin rfl rfl rfl (run_neq _ _ _ _ _ _)) (WL_pure rfl rfl (by decide) (Pu_move rfl rfl) (WL_guardP rfl rfl rfl rfl (by decide) (fun hb => (Pu_move rfl rfl)) (WL_guardP rfl rfl rfl rfl (by decide) (fun hb => (Pu_move rfl rfl)) (WL_guardP rfl rfl rfl rfl (by decide) (fun hb => (Pu_bin rfl (ev_gv rfl hb) (ev_gv rfl hb) (run_gtr _ _ _ _ _ _))) (WL_pure rfl rfl (by decide) (Pu_or rfl rfl rfl) (WL_nil (X_then ?_))))))))
                    refine W_false rfl ((by simp; omega)) ?_
                    refine W_skip (X_block (X_then ?_))
                    refine W.pre (K' := [(0, _), (1, _), (2, _), (7, _), (9, _), (13, _), (14, _), (90, _), (111, _)]) (L' := [(0, _), (1300, _)]) ?_ ⟨rfl, ⟨rfl, ⟨rfl, ⟨rfl, ⟨rfl, ⟨rfl, ⟨rfl, ⟨rfl, ⟨rfl, trivial⟩⟩⟩⟩⟩⟩⟩⟩⟩ ⟨rfl, ⟨rfl, trivial⟩⟩
                    refine W_regL (WL_pure rfl rfl (by decide) (Pu_move rfl rfl) (WL_pure rfl rfl (by decide) (Pu_bin rfl rfl rfl (run_add _ _ _ _ _ (by omega))) (WL_pure rfl rfl (by decide) (Pu_assign rfl rfl) (WL_nil ?_))))
                    refine X_ren 1300 500 rfl ?_
                    exact X_round (x.1 + 1, B2) ⟨hb2, by dsimp only; omega, by dsimp only; omega⟩ (by show 80 - (x.1 + 1) < 80 - x.1; omega) ⟨rfl, rfl, rfl, rfl, rfl, trivial⟩ ⟨rfl, rfl, trivial⟩
              exact AHs_nil
            exact AHs_nil
          refine AHs_cons rfl rfl rfl (by decide) (OpT_call 1100 [0, 501, 700, 701, 702] [] rfl Try.call9 rfl rfl rfl (by decide) (by decide) (within_spec c.dur 20 (by omega) (by omega) _) (fun v63 Ps63 hR63 => ?_)) ?_
          ·
            obtain ⟨rfl, rfl⟩ := hR63
            refine ⟨⟨rfl, ⟨rfl, trivial⟩⟩, ?_⟩
            refine (AH_take 16 rfl (by kernel_rfl) (by kernel_rfl) (by kernel_rfl) rfl rfl (by decide) (Pu_bin rfl rfl rfl (run_add _ _ _ _ _ (by omega))) (AH_ready [7] (by kernel_rfl) (by decide) ?_))
            refine AHs_cons rfl rfl rfl (by decide) (OpT_make (r := 1101) (m := n) rfl Try.underlying38 TI.hi5 TI.hz5 TI.hs5 rfl rfl (by rw [TI.hby5]; omega) (by unfold maxLen; omega) ((made_one _ _).trans (made_bytes n)) (fun v55 => ?_)) ?_
            ·
              refine ⟨⟨rfl, ⟨rfl, trivial⟩⟩, ?_⟩
              refine AH_fact (r := 1101) rfl (fun h hp => rd_one (rowP_rd hp)) (fun ho55 => ?_)
              refine (AH_take 17 rfl (by kernel_rfl) (by kernel_rfl) (by kernel_rfl) rfl rfl (by decide) (Pu_bk (keyA_length c.key) ho55 rfl rfl (.k (keyA_length c.key) (.d ho55 (.s (.e (.nil _)))))) (AH_ready [19] (by kernel_rfl) (by decide) ?_))
              refine AHs_cons rfl rfl rfl (by decide) (OpT_call 1200 [0, 501, 701, 702, 1101] [700] rfl Try.call13 rfl rfl rfl (by decide) (by decide) (put_spec ga room quota (x.1 : Int) B1 (by omega) (mkB (keyA c.key) v55 (c.src % 4) ((x.1 : Int) + 1 + c.dur % 20) (keyA_length c.key) ho55) (List.replicate n 0) _ (rd_star 4 rfl (fun h hp => rdP_cast (rowP_rd hp) rfl (List.length_replicate).symm))) (fun v67 Ps67 hR67 => ?_)) ?_
              ·
                obtain ⟨rfl, rfl⟩ := hR67
                refine ⟨⟨rfl, ⟨rfl, trivial⟩⟩, ?_⟩
                obtain ⟨e, B2, hp, hb2, hl2, he⟩ := bnd_put (now := (x.1 : Int)) (b := ⟨keyA c.key, List.replicate n 0, c.src % 4, (x.1 : Int) + 1 + c.dur % 20⟩) hI1 (by dsimp only; omega) (by dsimp only; omega) (by simp; omega) hs1
                rw [toBk_mk, hp]
                refine (AH_take 20 rfl (by kernel_rfl) (by kernel_rfl) (by kernel_rfl) rfl rfl (by decide) (Pu_assign rfl rfl) (AH_done (by kernel_rfl) (X_then ?_)))
                refine W_seq ?_
                refine W_seq ?_
                refine W.pre (K' := [(0, _), (1, _), (2, _), (7, _), (9, _), (10, _), (11, _), (12, _), (36, _)]) (L' := [(0, _), (501, _), (701, _), (702, _), (1101, _), (1200, _)]) ?_ ⟨rfl, ⟨rfl, ⟨rfl, ⟨rfl, ⟨rfl, ⟨rfl, ⟨rfl, ⟨rfl, ⟨rfl, trivial⟩⟩⟩⟩⟩⟩⟩⟩⟩ ⟨rfl, ⟨rfl, ⟨rfl, ⟨rfl, ⟨rfl, ⟨rfl, trivial⟩⟩⟩⟩⟩⟩
                rcases Bool.eq_false_or_eq_true (!(decide (e = 0))) with hsp12 | hsp12
                ·
                  have hne : e ≠ 0 := by simpa using hsp12
                  have he2 : (e = 15 ∨ e = 16) ∧ B2 = B1 := by rcases he with h | h; exact absurd h hne; exact h
                  obtain ⟨he3, rfl⟩ := he2
                  refine W_regL (WL_pure rfl rfl (by decide) (Pu_move rfl rfl) (WL_pure rfl rfl (by decide) (Pu_bin rfl rfl rfl (run_neq _ _ _ _ _ _)) (WL_pure rfl rfl (by decide) (Pu_move rfl rfl) (WL_gPT rfl rfl rfl (by rw [hsp12]; rfl) rfl (by decide) (Pu_move rfl rfl) (WL_gT rfl rfl rfl (by rw [hsp12]; rfl) rfl (by decide) (OpT_call 1300 [0, 501, 701, 702, 1101] [1200] rfl Try.call12 rfl rfl rfl (by decide) (by decide) (all_spec ga (room) (quota) B2 (by omega) _) (fun v72 Ps72 hR72 => ?_)))))))
                  obtain ⟨zs72, hzs72, rfl⟩ := hR72
                  have hzl72 : (zs72.map (fun p : EB => p.1)).length = zs72.length := List.length_map _
                  refine (WL_gPT rfl rfl rfl (by rw [hsp12]; rfl) rfl (by decide) (Pu_move rfl rfl) (WL_gT rfl rfl rfl (by rw [hsp12]; rfl) rfl (by decide) (OpT_call 1400 [0, 501, 701, 702, 1101, 1300, 1301, 1302] [] rfl Try.call15 rfl rfl rfl (by decide) (by decide) (same_spec v72 v47 zs72 zs47 (by rw [hzs72, hzs47]) (by have := congrArg List.length hzs72; rw [List.length_map] at this; omega) _ (rd_star 6 rfl (fun _ hp => rowP_rd hp)) (fun h hs => star_dat 7 rfl hs) (rd_star 2 rfl (fun _ hp => rowP_rd hp)) (fun h hs => star_dat 3 rfl hs)) (fun v74 Ps74 hR74 => ?_))))
                  obtain ⟨rfl, rfl⟩ := hR74
                  refine (WL_gPT rfl rfl rfl (by rw [hsp12]; rfl) rfl (by decide) (Pu_un rfl rfl (run_not _)) (WL_pure rfl rfl (by decide) (Pu_pickT rfl rfl hsp12 rfl) (WL_pure rfl rfl (by decide) (Pu_move rfl rfl) (WL_gPT rfl rfl rfl rfl rfl (by decide) (Pu_move rfl rfl) (WL_gPT rfl rfl rfl rfl rfl (by decide) (Pu_bin rfl rfl rfl (run_neq _ _ _ _ _ _)) (WL_gPT rfl rfl rfl rfl rfl (by decide) (Pu_move rfl rfl) (WL_gPT rfl rfl rfl (by simp [hne]) rfl (by decide) (Pu_move rfl rfl) (WL_gPT rfl rfl rfl (by simp [hne]) rfl (by decide) (Pu_bin rfl rfl rfl (run_neq _ _ _ _ _ _)) (WL_gPT rfl rfl rfl rfl rfl (by decide) (Pu_pickT rfl rfl (by simp [hne]) rfl) (WL_gPT rfl rfl rfl rfl rfl (by decide) (Pu_move rfl rfl) (WL_guardP rfl rfl rfl rfl (by decide) (fun hb => (Pu_move rfl rfl)) (WL_guardP rfl rfl rfl rfl (by decide) (fun hb => (Pu_bin rfl (ev_gv rfl hb) rfl (run_neq _ _ _ _ _ _))) (WL_gPT rfl rfl rfl rfl rfl (by decide) (Pu_and rfl rfl rfl) (WL_pure rfl rfl (by decide) (Pu_pickF rfl rfl rfl rfl) (WL_nil (X_then ?_))))))))))))))))
                  refine W_false rfl ((by first | rfl | (rcases he3 with rfl | rfl <;> rfl))) ?_
                  refine W_skip (X_then ?_)
                  refine W_seq ?_
                  refine W.pre (K' := [(0, _), (1, _), (2, _), (7, _), (9, _), (10, _), (11, _), (12, _), (36, _), (88, _)]) (L' := [(0, _), (501, _), (701, _), (702, _), (1101, _), (1300, _), (1301, _), (1302, _)]) ?_ ⟨rfl, ⟨rfl, ⟨rfl, ⟨rfl, ⟨rfl, ⟨rfl, ⟨rfl, ⟨rfl, ⟨rfl, ⟨rfl, trivial⟩⟩⟩⟩⟩⟩⟩⟩⟩⟩ ⟨rfl, ⟨rfl, ⟨rfl, ⟨rfl, ⟨rfl, ⟨rfl, ⟨rfl, ⟨rfl, trivial⟩⟩⟩⟩⟩⟩⟩⟩
                  refine W_regL (WL_pure rfl rfl (by decide) (Pu_assign rfl rfl) (WL_nil (X_then ?_)))
                  refine W_seq ?_
                  refine W_seq ?_
                  refine W.pre (K' := [(0, _), (1, _), (2, _), (7, _), (9, _), (10, _), (11, _), (12, _), (13, _), (36, _), (88, _)]) (L' := [(0, _), (501, _), (701, _), (702, _), (1101, _), (1300, _), (1301, _), (1302, _)]) ?_ ⟨rfl, ⟨rfl, ⟨rfl, ⟨rfl, ⟨rfl, ⟨rfl, ⟨rfl, ⟨rfl, ⟨rfl, ⟨rfl, ⟨rfl, trivial⟩⟩⟩⟩⟩⟩⟩⟩⟩⟩⟩ ⟨rfl, ⟨rfl, ⟨rfl, ⟨rfl, ⟨rfl, ⟨rfl, ⟨rfl, ⟨rfl, trivial⟩⟩⟩⟩⟩⟩⟩⟩
                  refine W_regL (WL_pure rfl rfl (by decide) (Pu_assign rfl rfl) (WL_nil (X_then ?_)))
                  refine W_block ?_
                  refine W_loop (α := Nat) (fun y => [(0, .int .i64 room), (1, .int .i64 quota), (2, vc), (7, .pointer (some ⟨ga, 0, none⟩)), (9, .int .i64 (x.1 : Int)), (13, .int .i64 (usum B2 y : Int)), (14, .int .i64 (y : Int))]) (fun y => [(0, orig Wo), (1300, areaP ga room quota B2)]) (fun y => y ≤ 4) (fun y => 4 - y) (0) (by omega) ⟨rfl, ⟨rfl, ⟨rfl, ⟨rfl, ⟨rfl, ⟨rfl, ⟨rfl, trivial⟩⟩⟩⟩⟩⟩⟩ ⟨rfl, ⟨rfl, trivial⟩⟩ (fun y hy => ?_)
                  have hus := usum_le B2 y
                  have hus2 := hb2.used (y : Int)
                  have hut := hb2.tot
                  have hus3 : y * totA B2 ≤ 4 * totA B2 := Nat.mul_le_mul_right _ hy
                  refine W_seq ?_
                  refine W_seq ?_
                  refine W.pre (K' := [(0, _), (1, _), (2, _), (7, _), (9, _), (13, _), (14, _)]) (L' := [(0, _), (1300, _)]) ?_ ⟨rfl, ⟨rfl, ⟨rfl, ⟨rfl, ⟨rfl, ⟨rfl, ⟨rfl, trivial⟩⟩⟩⟩⟩⟩⟩ ⟨rfl, ⟨rfl, trivial⟩⟩
                  refine W_regL (WL_pure rfl rfl (by decide) (Pu_move rfl rfl) (WL_pure rfl rfl (by decide) (Pu_bin rfl rfl rfl (run_lss _ _ _ _ _ _)) (WL_nil (X_then ?_))))
                  refine W_cond rfl (fun hc90 => ?_) (fun hc90 => ?_)
                  ·
                    have hy4 : y < 4 := by have := of_decide_eq_true hc90; omega
                    refine W_skip (X_then ?_)
                    refine W_seq ?_
                    refine W_block ?_
                    refine W_seq ?_
                    refine W_seq ?_
                    refine W.pre (K' := [(0, _), (1, _), (2, _), (7, _), (9, _), (13, _), (14, _), (90, _)]) (L' := [(0, _), (1300, _)]) ?_ ⟨rfl, ⟨rfl, ⟨rfl, ⟨rfl, ⟨rfl, ⟨rfl, ⟨rfl, ⟨rfl, trivial⟩⟩⟩⟩⟩⟩⟩⟩ ⟨rfl, ⟨rfl, trivial⟩⟩
                    refine W_regL (WL_pure rfl rfl (by decide) (Pu_move rfl rfl) (WL_pure rfl rfl (by decide) (Pu_move rfl rfl) (WL_cons rfl rfl (by decide) (OpT_call 1500 [0] [1300] rfl Try.call16 rfl rfl rfl (by decide) (by decide) (used_spec ga room quota (y : Int) B2 _) (fun v95 Ps95 hR95 => ?_)))))
                    obtain ⟨rfl, rfl⟩ := hR95
                    refine (WL_pure rfl rfl (by decide) (Pu_move rfl rfl) (WL_pure rfl rfl (by decide) (Pu_bin rfl rfl rfl (run_gtr _ _ _ _ _ _)) (WL_nil (X_then ?_))))
                    refine W_false rfl ((decide_eq_false (by omega))) ?_
                    refine W_skip (X_then ?_)
                    refine W.pre (K' := [(0, _), (1, _), (2, _), (7, _), (9, _), (13, _), (14, _), (90, _), (97, _)]) (L' := [(0, _), (1500, _)]) ?_ ⟨rfl, ⟨rfl, ⟨rfl, ⟨rfl, ⟨rfl, ⟨rfl, ⟨rfl, ⟨rfl, ⟨rfl, trivial⟩⟩⟩⟩⟩⟩⟩⟩⟩ ⟨rfl, ⟨rfl, trivial⟩⟩
                    refine W_regL (WL_pure rfl rfl (by decide) (Pu_move rfl rfl) (WL_pure rfl rfl (by decide) (Pu_move rfl rfl) (WL_pure rfl rfl (by decide) (Pu_move rfl rfl) (WL_cons rfl rfl (by decide) (OpT_call 1600 [0] [1500] rfl Try.call16 rfl rfl rfl (by decide) (by decide) (used_spec ga room quota (y : Int) B2 _) (fun v101 Ps101 hR101 => ?_))))))
                    obtain ⟨rfl, rfl⟩ := hR101
                    refine (WL_pure rfl rfl (by decide) (Pu_bin rfl rfl rfl (run_add _ _ _ _ _ (by omega))) (WL_pure rfl rfl (by decide) (Pu_assign rfl rfl) (WL_nil (X_block (X_then ?_)))))
                    refine W.pre (K' := [(0, _), (1, _), (2, _), (7, _), (9, _), (13, _), (14, _), (90, _), (97, _)]) (L' := [(0, _), (1600, _)]) ?_ ⟨rfl, ⟨rfl, ⟨rfl, ⟨rfl, ⟨rfl, ⟨rfl, ⟨rfl, ⟨rfl, ⟨rfl, trivial⟩⟩⟩⟩⟩⟩⟩⟩⟩ ⟨rfl, ⟨rfl, trivial⟩⟩
                    refine W_regL (WL_pure rfl rfl (by decide) (Pu_move rfl rfl) (WL_pure rfl rfl (by decide) (Pu_bin rfl rfl rfl (run_add _ _ _ _ _ (by omega))) (WL_pure rfl rfl (by decide) (Pu_assign rfl rfl) (WL_nil ?_))))
                    refine X_ren 1600 1300 rfl ?_
                    exact X_round (y + 1) (by omega) (by omega) ⟨rfl, rfl, rfl, rfl, rfl, lookV_eq rfl (int_eq (by show _ = (((usum B2 y + usedA (y : Int) B2 : Nat)) : Int); omega)), rfl, trivial⟩ ⟨rfl, rfl, trivial⟩
                  ·
                    obtain rfl : y = 4 := by have := of_decide_eq_false hc90; omega
                    have hall := usum_all hb2.src
                    rw [hall]
                    refine W_exit (X_then_exit (X_then_exit (X_block_exit (X_then ?_))))
                    refine W_seq ?_
                    refine W.pre (K' := [(0, _), (1, _), (2, _), (7, _), (9, _), (13, _), (14, _), (90, _)]) (L' := [(0, _), (1300, _)]) ?_ ⟨rfl, ⟨rfl, ⟨rfl, ⟨rfl, ⟨rfl, ⟨rfl, ⟨rfl, ⟨rfl, trivial⟩⟩⟩⟩⟩⟩⟩⟩ ⟨rfl, ⟨rfl, trivial⟩⟩
                    refine W_regL (WL_pure rfl rfl (by decide) (Pu_move rfl rfl) (WL_pure rfl rfl (by decide) (Pu_move rfl rfl) (WL_cons rfl rfl (by decide) (OpT_call 1500 [0] [1300] rfl Try.call17 rfl rfl rfl (by decide) (by decide) (total_spec ga room quota B2 _) (fun v105 Ps105 hR105 => ?_)))))
                    obtain ⟨rfl, rfl⟩ := hR105
                    refine (WL_pure rfl rfl (by decide) (Pu_bin rfl rfl rfl (run_neq _ _ _ _ _ _)) (WL_pure rfl rfl (by decide) (Pu_move rfl rfl) (WL_guardP rfl rfl rfl rfl (by decide) (fun hb => (Pu_move rfl rfl)) (WL_guardP rfl rfl rfl rfl (by decide) (fun hb => (Pu_move rfl rfl)) (WL_guardP rfl rfl rfl rfl (by decide) (fun hb => (Pu_bin rfl (ev_gv rfl hb) (ev_gv rfl hb) (run_gtr _ _ _ _ _ _))) (WL_pure rfl rfl (by decide) (Pu_or rfl rfl rfl) (WL_nil (X_then ?_))))))))
                    refine W_false rfl ((by simp; omega)) ?_
                    refine W_skip (X_block (X_then ?_))
                    refine W.pre (K' := [(0, _), (1, _), (2, _), (7, _), (9, _), (13, _), (14, _), (90, _), (111, _)]) (L' := [(0, _), (1500, _)]) ?_ ⟨rfl, ⟨rfl, ⟨rfl, ⟨rfl, ⟨rfl, ⟨rfl, ⟨rfl, ⟨rfl, ⟨rfl, trivial⟩⟩⟩⟩⟩⟩⟩⟩⟩ ⟨rfl, ⟨rfl, trivial⟩⟩
                    refine W_regL (WL_pure rfl rfl (by decide) (Pu_move rfl rfl) (WL_pure rfl rfl (by decide) (Pu_bin rfl rfl rfl (run_add _ _ _ _ _ (by omega))) (WL_pure rfl rfl (by decide) (Pu_assign rfl rfl) (WL_nil ?_))))
                    refine X_ren 1500 500 rfl ?_
                    exact X_round (x.1 + 1, B2) ⟨hb2, by dsimp only; omega, by dsimp only; omega⟩ (by show 80 - (x.1 + 1) < 80 - x.1; omega) ⟨rfl, rfl, rfl, rfl, rfl, trivial⟩ ⟨rfl, rfl, trivial⟩
                ·
                  have he0 : e = 0 := by simpa using hsp12
                  subst he0
                  refine W_regL (WL_pure rfl rfl (by decide) (Pu_move rfl rfl) (WL_pure rfl rfl (by decide) (Pu_bin rfl rfl rfl (run_neq _ _ _ _ _ _)) (WL_pure rfl rfl (by decide) (Pu_move rfl rfl) (WL_gF rfl rfl rfl (by rw [hsp12]; rfl) rfl (by decide) (WL_gF rfl rfl rfl (by rw [hsp12]; rfl) rfl (by decide) (WL_gF rfl rfl rfl (by rw [hsp12]; rfl) rfl (by decide) (WL_gF rfl rfl rfl (by rw [hsp12]; rfl) rfl (by decide) (WL_gF rfl rfl rfl (by rw [hsp12]; rfl) rfl (by decide) (WL_pure rfl rfl (by decide) (Pu_pickF rfl rfl hsp12 rfl) (WL_pure rfl rfl (by decide) (Pu_move rfl rfl) (WL_gPT rfl rfl rfl rfl rfl (by decide) (Pu_move rfl rfl) (WL_gPT rfl rfl rfl rfl rfl (by decide) (Pu_bin rfl rfl rfl (run_neq _ _ _ _ _ _)) (WL_gPT rfl rfl rfl rfl rfl (by decide) (Pu_move rfl rfl) (WL_gF rfl rfl rfl rfl rfl (by decide) (WL_gF rfl rfl rfl rfl rfl (by decide) (WL_gPT rfl rfl rfl rfl rfl (by decide) (Pu_pickF rfl rfl rfl rfl) (WL_gPT rfl rfl rfl rfl rfl (by decide) (Pu_move rfl rfl) (WL_gF rfl rfl rfl rfl rfl (by decide) (WL_gF rfl rfl rfl rfl rfl (by decide) (WL_gPT rfl rfl rfl rfl rfl (by decide) (Pu_pickF rfl rfl rfl rfl) (WL_pure rfl rfl (by decide) (Pu_pickF rfl rfl rfl rfl) (WL_nil (X_then ?_)))))))))))))))))))))))
                  refine W_false rfl ((by first | rfl | (rcases he3 with rfl | rfl <;> rfl))) ?_
                  refine W_skip (X_then ?_)
                  refine W_seq ?_
                  refine W.pre (K' := [(0, _), (1, _), (2, _), (7, _), (9, _), (10, _), (11, _), (12, _), (36, _), (88, _)]) (L' := [(0, _), (501, _), (701, _), (702, _), (1101, _), (1200, _)]) ?_ ⟨rfl, ⟨rfl, ⟨rfl, ⟨rfl, ⟨rfl, ⟨rfl, ⟨rfl, ⟨rfl, ⟨rfl, ⟨rfl, trivial⟩⟩⟩⟩⟩⟩⟩⟩⟩⟩ ⟨rfl, ⟨rfl, ⟨rfl, ⟨rfl, ⟨rfl, ⟨rfl, trivial⟩⟩⟩⟩⟩⟩
                  refine W_regL (WL_pure rfl rfl (by decide) (Pu_assign rfl rfl) (WL_nil (X_then ?_)))
                  refine W_seq ?_
                  refine W_seq ?_
                  refine W.pre (K' := [(0, _), (1, _), (2, _), (7, _), (9, _), (10, _), (11, _), (12, _), (13, _), (36, _), (88, _)]) (L' := [(0, _), (501, _), (701, _), (702, _), (1101, _), (1200, _)]) ?_ ⟨rfl, ⟨rfl, ⟨rfl, ⟨rfl, ⟨rfl, ⟨rfl, ⟨rfl, ⟨rfl, ⟨rfl, ⟨rfl, ⟨rfl, trivial⟩⟩⟩⟩⟩⟩⟩⟩⟩⟩⟩ ⟨rfl, ⟨rfl, ⟨rfl, ⟨rfl, ⟨rfl, ⟨rfl, trivial⟩⟩⟩⟩⟩⟩
                  refine W_regL (WL_pure rfl rfl (by decide) (Pu_assign rfl rfl) (WL_nil (X_then ?_)))
                  refine W_block ?_
                  refine W_loop (α := Nat) (fun y => [(0, .int .i64 room), (1, .int .i64 quota), (2, vc), (7, .pointer (some ⟨ga, 0, none⟩)), (9, .int .i64 (x.1 : Int)), (13, .int .i64 (usum B2 y : Int)), (14, .int .i64 (y : Int))]) (fun y => [(0, orig Wo), (1200, areaP ga room quota B2)]) (fun y => y ≤ 4) (fun y => 4 - y) (0) (by omega) ⟨rfl, ⟨rfl, ⟨rfl, ⟨rfl, ⟨rfl, ⟨rfl, ⟨rfl, trivial⟩⟩⟩⟩⟩⟩⟩ ⟨rfl, ⟨rfl, trivial⟩⟩ (fun y hy => ?_)
                  have hus := usum_le B2 y
                  have hus2 := hb2.used (y : Int)
                  have hut := hb2.tot
                  have hus3 : y * totA B2 ≤ 4 * totA B2 := Nat.mul_le_mul_right _ hy
                  refine W_seq ?_
                  refine W_seq ?_
                  refine W.pre (K' := [(0, _), (1, _), (2, _), (7, _), (9, _), (13, _), (14, _)]) (L' := [(0, _), (1200, _)]) ?_ ⟨rfl, ⟨rfl, ⟨rfl, ⟨rfl, ⟨rfl, ⟨rfl, ⟨rfl, trivial⟩⟩⟩⟩⟩⟩⟩ ⟨rfl, ⟨rfl, trivial⟩⟩
                  refine W_regL (WL_pure rfl rfl (by decide) (Pu_move rfl rfl) (WL_pure rfl rfl (by decide) (Pu_bin rfl rfl rfl (run_lss _ _ _ _ _ _)) (WL_nil (X_then ?_))))
                  refine W_cond rfl (fun hc90 => ?_) (fun hc90 => ?_)
                  ·
                    have hy4 : y < 4 := by have := of_decide_eq_true hc90; omega
                    refine W_skip (X_then ?_)
                    refine W_seq ?_
                    refine W_block ?_
                    refine W_seq ?_
                    refine W_seq ?_
                    refine W.pre (K' := [(0, _), (1, _), (2, _), (7, _), (9, _), (13, _), (14, _), (90, _)]) (L' := [(0, _), (1200, _)]) ?_ ⟨rfl, ⟨rfl, ⟨rfl, ⟨rfl, ⟨rfl, ⟨rfl, ⟨rfl, ⟨rfl, trivial⟩⟩⟩⟩⟩⟩⟩⟩ ⟨rfl, ⟨rfl, trivial⟩⟩
                    refine W_regL (WL_pure rfl rfl (by decide) (Pu_move rfl rfl) (WL_pure rfl rfl (by decide) (Pu_move rfl rfl) (WL_cons rfl rfl (by decide) (OpT_call 1300 [0] [1200] rfl Try.call16 rfl rfl rfl (by decide) (by decide) (used_spec ga room quota (y : Int) B2 _) (fun v95 Ps95 hR95 => ?_)))))
                    obtain ⟨rfl, rfl⟩ := hR95
                    refine (WL_pure rfl rfl (by decide) (Pu_move rfl rfl) (WL_pure rfl rfl (by decide) (Pu_bin rfl rfl rfl (run_gtr _ _ _ _ _ _)) (WL_nil (X_then ?_))))
                    refine W_false rfl ((decide_eq_false (by omega))) ?_
                    refine W_skip (X_then ?_)
                    refine W.pre (K' := [(0, _), (1, _), (2, _), (7, _), (9, _), (13, _), (14, _), (90, _), (97, _)]) (L' := [(0, _), (1300, _)]) ?_ ⟨rfl, ⟨rfl, ⟨rfl, ⟨rfl, ⟨rfl, ⟨rfl, ⟨rfl, ⟨rfl, ⟨rfl, trivial⟩⟩⟩⟩⟩⟩⟩⟩⟩ ⟨rfl, ⟨rfl, trivial⟩⟩
                    refine W_regL (WL_pure rfl rfl (by decide) (Pu_move rfl rfl) (WL_pure rfl rfl (by decide) (Pu_move rfl rfl) (WL_pure rfl rfl (by decide) (Pu_move rfl rfl) (WL_cons rfl rfl (by decide) (OpT_call 1400 [0] [1300] rfl Try.call16 rfl rfl rfl (by decide) (by decide) (used_spec ga room quota (y : Int) B2 _) (fun v101 Ps101 hR101 => ?_))))))
                    obtain ⟨rfl, rfl⟩ := hR101
                    refine (WL_pure rfl rfl (by decide) (Pu_bin rfl rfl rfl (run_add _ _ _ _ _ (by omega))) (WL_pure rfl rfl (by decide) (Pu_assign rfl rfl) (WL_nil (X_block (X_then ?_)))))
                    refine W.pre (K' := [(0, _), (1, _), (2, _), (7, _), (9, _), (13, _), (14, _), (90, _), (97, _)]) (L' := [(0, _), (1400, _)]) ?_ ⟨rfl, ⟨rfl, ⟨rfl, ⟨rfl, ⟨rfl, ⟨rfl, ⟨rfl, ⟨rfl, ⟨rfl, trivial⟩⟩⟩⟩⟩⟩⟩⟩⟩ ⟨rfl, ⟨rfl, trivial⟩⟩
                    refine W_regL (WL_pure rfl rfl (by decide) (Pu_move rfl rfl) (WL_pure rfl rfl (by decide) (Pu_bin rfl rfl rfl (run_add _ _ _ _ _ (by omega))) (WL_pure rfl rfl (by decide) (Pu_assign rfl rfl) (WL_nil ?_))))
                    refine X_ren 1400 1200 rfl ?_
                    exact X_round (y + 1) (by omega) (by omega) ⟨rfl, rfl, rfl, rfl, rfl, lookV_eq rfl (int_eq (by show _ = (((usum B2 y + usedA (y : Int) B2 : Nat)) : Int); omega)), rfl, trivial⟩ ⟨rfl, rfl, trivial⟩
                  ·
                    obtain rfl : y = 4 := by have := of_decide_eq_false hc90; omega
                    have hall := usum_all hb2.src
                    rw [hall]
                    refine W_exit (X_then_exit (X_then_exit (X_block_exit (X_then ?_))))
                    refine W_seq ?_
                    refine W.pre (K' := [(0, _), (1, _), (2, _), (7, _), (9, _), (13, _), (14, _), (90, _)]) (L' := [(0, _), (1200, _)]) ?_ ⟨rfl, ⟨rfl, ⟨rfl, ⟨rfl, ⟨rfl, ⟨rfl, ⟨rfl, ⟨rfl, trivial⟩⟩⟩⟩⟩⟩⟩⟩ ⟨rfl, ⟨rfl, trivial⟩⟩
                    refine W_regL (WL_pure rfl rfl (by decide) (Pu_move rfl rfl) (WL_pure rfl rfl (by decide) (Pu_move rfl rfl) (WL_cons rfl rfl (by decide) (OpT_call 1300 [0] [1200] rfl Try.call17 rfl rfl rfl (by decide) (by decide) (total_spec ga room quota B2 _) (fun v105 Ps105 hR105 => ?_)))))
                    obtain ⟨rfl, rfl⟩ := hR105
                    refine (WL_pure rfl rfl (by decide) (Pu_bin rfl rfl rfl (run_neq _ _ _ _ _ _)) (WL_pure rfl rfl (by decide) (Pu_move rfl rfl) (WL_guardP rfl rfl rfl rfl (by decide) (fun hb => (Pu_move rfl rfl)) (WL_guardP rfl rfl rfl rfl (by decide) (fun hb => (Pu_move rfl rfl)) (WL_guardP rfl rfl rfl rfl (by decide) (fun hb => (Pu_bin rfl (ev_gv rfl hb) (ev_gv rfl hb) (run_gtr _ _ _ _ _ _))) (WL_pure rfl rfl (by decide) (Pu_or rfl rfl rfl) (WL_nil (X_then ?_))))))))
                    refine W_false rfl ((by simp; omega)) ?_
                    refine W_skip (X_block (X_then ?_))
                    refine W.pre (K' := [(0, _), (1, _), (2, _), (7, _), (9, _), (13, _), (14, _), (90, _), (111, _)]) (L' := [(0, _), (1300, _)]) ?_ ⟨rfl, ⟨rfl, ⟨rfl, ⟨rfl, ⟨rfl, ⟨rfl, ⟨rfl, ⟨rfl, ⟨rfl, trivial⟩⟩⟩⟩⟩⟩⟩⟩⟩ ⟨rfl, ⟨rfl, trivial⟩⟩
                    refine W_regL (WL_pure rfl rfl (by decide) (Pu_move rfl rfl) (WL_pure rfl rfl (by decide) (Pu_bin rfl rfl rfl (run_add _ _ _ _ _ (by omega))) (WL_pure rfl rfl (by decide) (Pu_assign rfl rfl) (WL_nil ?_))))
                    refine X_ren 1300 500 rfl ?_
                    exact X_round (x.1 + 1, B2) ⟨hb2, by dsimp only; omega, by dsimp only; omega⟩ (by show 80 - (x.1 + 1) < 80 - x.1; omega) ⟨rfl, rfl, rfl, rfl, rfl, trivial⟩ ⟨rfl, rfl, trivial⟩
              exact AHs_nil
            exact AHs_nil
          exact AHs_nil
        exact AHs_nil
      exact AHs_nil
    exact AHs_nil
  ·
    refine W_exit (X_then_exit (X_then_exit (X_block_exit (X_then ?_))))
    refine W_seq ?_
    refine W.pre (K' := [(0, _), (1, _), (2, _), (7, _), (9, _), (36, _)]) (L' := [(0, _), (500, _)]) ?_ ⟨rfl, ⟨rfl, ⟨rfl, ⟨rfl, ⟨rfl, ⟨rfl, trivial⟩⟩⟩⟩⟩⟩ ⟨rfl, ⟨rfl, trivial⟩⟩
    refine W_regL (WL_pure rfl rfl (by decide) (Pu_assign rfl rfl) (WL_nil (X_then ?_)))
    refine W_ret ?_
    exact X_ret [] (Ps := []) (res1 Try.results3 rfl) rfl (by decide) rfl

theorem areaBounds_any (W : World) (a0 : Int) (lo0 : -9223372036854775808 ≤ a0) (hi0 : a0 ≤ 9223372036854775807) (a1 : Int) (lo1 : -9223372036854775808 ≤ a1) (hi1 : a1 ≤ 9223372036854775807) (v2 : Value) (l2 : List CallA) (hr2 : Rd W 5 v2 l2.length (recC callF l2) ∧ ∀ c ∈ l2, CallOk c) (hl2 : l2.length ≤ maxLen) :
    Calls Try.prog 3 #[.int .i64 a0, .int .i64 a1, v2] W fun e W' => e = .returned (.bool true) ∧ Chg [] W W' := calls_law (areaBounds_law W a0 a1 v2 l2 hr2.1 hr2.2)
end Go.Proofs.Ytjopgnkffhfhkaa
/- Areas: the law that plays. -/
namespace Go.Proofs.Ytjopgnkffhfhkaa
open Go.RowKit
set_option linter.unusedVariables false
set_option linter.unusedSimpArgs false
set_option maxRecDepth 8000
theorem rowB_app {t : TypeId} {v : Value} {d : List UInt8} {x : UInt8} {h : Hlt} (hp : rowP t 1 v (d.length + 1) (bs d ++ bs [x]) h) : rowB t v (d ++ [x]) h := by
  unfold rowB
  rw [List.length_append]
  simpa [bs] using hp
theorem rowB_zero {t : TypeId} (v : Value) (d : List UInt8) : rowP t 1 v (0 + d.length) (bs [] ++ bs d) = rowB t v d := by
  unfold rowB
  rw [Nat.zero_add]
  rfl
theorem rowB_set {t : TypeId} (v : Value) (d : List UInt8) (k : Nat) (x : UInt8) : rowP t 1 v d.length (bs (d.set k x)) = rowB t v (d.set k x) := by
  unfold rowB
  rw [List.length_set]
set_option maxHeartbeats 4000000 in
theorem areaPlays_law (Wo : World) (room0 quota0 : Int) (vc : Value) (calls : List CallA) (hrc : Rd Wo 5 vc calls.length (recC callF calls)) (hok : ∀ c ∈ calls, CallOk c) :
    CallsS Try.prog 6 #[.int .i64 room0, .int .i64 quota0, vc] (orig Wo) [] (fun v Ps => v = .bool true) := by
  refine callsS_enter Try.func6 rfl Try.ntmps6 (by simp) (fun E => ?_)
  refine W_seq ?_
  refine W.pre (K' := [(0, _), (1, _), (2, _)]) (L' := [(0, _)]) ?_ ⟨rfl, ⟨rfl, ⟨rfl, trivial⟩⟩⟩ ⟨rfl, trivial⟩
  refine W_regL (WL_pure rfl rfl (by decide) (Pu_assign rfl rfl) (WL_nil (X_then ?_)))
  refine W_seq ?_
  refine W_seq ?_
  refine W.pre (K' := [(0, _), (1, _), (2, _), (6, _)]) (L' := [(0, _)]) ?_ ⟨rfl, ⟨rfl, ⟨rfl, ⟨rfl, trivial⟩⟩⟩⟩ ⟨rfl, trivial⟩
  refine W_regL (WL_cons rfl rfl (by decide) (OpT_call 200 [0] [] rfl Try.call8 rfl rfl rfl (by decide) (by decide) (known_spec _) (fun v27 Ps27 hR27 => ?_)))
  obtain ⟨rfl, rfl⟩ := hR27
  refine (WL_pure rfl rfl (by decide) (Pu_un rfl rfl (run_not _)) (WL_nil (X_then ?_)))
  refine W_false rfl (rfl) ?_
  refine W_skip (X_then ?_)
  refine W_seq ?_
  refine W.pre (K' := [(0, _), (1, _), (2, _), (6, _), (28, _)]) (L' := [(0, _)]) ?_ ⟨rfl, ⟨rfl, ⟨rfl, ⟨rfl, ⟨rfl, trivial⟩⟩⟩⟩⟩ ⟨rfl, trivial⟩
  refine W_regL (WL_pure rfl rfl (by decide) (Pu_move rfl rfl) (WL_pure rfl rfl (by decide) (Pu_move rfl rfl) (WL_cons rfl rfl (by decide) (OpT_call 300 [0] [] rfl Try.call10 rfl rfl rfl (by decide) (by decide) (newE_spec room0 quota0 _) (fun v32 Ps32 hR32 => ?_)))))
  obtain ⟨⟨p32, rfl⟩, rfl⟩ := hR32
  refine (WL_pure rfl rfl (by decide) (Pu_move rfl rfl) (WL_pure rfl rfl (by decide) (Pu_extract rfl rfl rfl) (WL_pure rfl rfl (by decide) (Pu_extract rfl rfl rfl) (WL_pure rfl rfl (by decide) (Pu_assign rfl rfl) (WL_pure rfl rfl (by decide) (Pu_assign rfl rfl) (WL_nil (X_then ?_)))))))
  refine W_seq ?_
  refine W.pre (K' := [(0, _), (1, _), (2, _), (6, _), (8, _), (28, _)]) (L' := [(0, _)]) ?_ ⟨rfl, ⟨rfl, ⟨rfl, ⟨rfl, ⟨rfl, ⟨rfl, trivial⟩⟩⟩⟩⟩⟩ ⟨rfl, trivial⟩
  refine W_regL (WL_pure rfl rfl (by decide) (Pu_move rfl rfl) (WL_pure rfl rfl (by decide) (Pu_move rfl rfl) (WL_cons rfl rfl (by decide) (OpT_call 400 [0] [] rfl Try.call19 rfl rfl rfl (by decide) (by decide) (refNewE_spec room0 quota0 _) (fun v38 Ps38 hR38 => ?_)))))
  obtain ⟨⟨p38, rfl⟩, rfl⟩ := hR38
  refine (WL_pure rfl rfl (by decide) (Pu_move rfl rfl) (WL_pure rfl rfl (by decide) (Pu_extract rfl rfl rfl) (WL_pure rfl rfl (by decide) (Pu_extract rfl rfl rfl) (WL_pure rfl rfl (by decide) (Pu_assign rfl rfl) (WL_pure rfl rfl (by decide) (Pu_assign rfl rfl) (WL_nil (X_then ?_)))))))
  refine W_seq ?_
  refine W_seq ?_
  refine W.pre (K' := [(0, _), (1, _), (2, _), (6, _), (8, _), (10, _), (28, _)]) (L' := [(0, _)]) ?_ ⟨rfl, ⟨rfl, ⟨rfl, ⟨rfl, ⟨rfl, ⟨rfl, ⟨rfl, trivial⟩⟩⟩⟩⟩⟩⟩ ⟨rfl, trivial⟩
  refine W_regL (WL_pure rfl rfl (by decide) (Pu_move rfl rfl) (WL_pure rfl rfl (by decide) (Pu_move rfl rfl) (WL_pure rfl rfl (by decide) (Pu_bin rfl rfl rfl (run_neq _ _ _ _ _ _)) (WL_nil (X_then ?_)))))
  refine W_false rfl ((by simp)) ?_
  refine W_skip (X_then ?_)
  refine W_seq ?_
  refine W.pre (K' := [(0, _), (1, _), (2, _), (6, _), (8, _), (10, _), (28, _), (43, _)]) (L' := [(0, _)]) ?_ ⟨rfl, ⟨rfl, ⟨rfl, ⟨rfl, ⟨rfl, ⟨rfl, ⟨rfl, ⟨rfl, trivial⟩⟩⟩⟩⟩⟩⟩⟩ ⟨rfl, trivial⟩
  refine W_regL (WL_pure rfl rfl (by decide) (Pu_move rfl rfl) (WL_cons rfl rfl (by decide) (OpT_call 500 [0] [] rfl Try.call9 rfl rfl rfl (by decide) (by decide) (within_spec room0 300 (by omega) (by omega) _) (fun v45 Ps45 hR45 => ?_))))
  obtain ⟨rfl, rfl⟩ := hR45
  refine (WL_pure rfl rfl (by decide) (Pu_bin rfl rfl rfl (run_add _ _ _ _ _ (by omega))) ?_)
  obtain ⟨room, hrd⟩ : ∃ n, 1 + room0 % 300 = n := ⟨_, rfl⟩
  have hr : 1 ≤ room ∧ room ≤ 300 := by omega
  rw [hrd]
  refine (WL_pure rfl rfl (by decide) (Pu_move rfl rfl) (WL_cons rfl rfl (by decide) (OpT_call 600 [0] [] rfl Try.call9 rfl rfl rfl (by decide) (by decide) (within_spec quota0 200 (by omega) (by omega) _) (fun v48 Ps48 hR48 => ?_))))
  obtain ⟨rfl, rfl⟩ := hR48
  refine (WL_pure rfl rfl (by decide) (Pu_bin rfl rfl rfl (run_add _ _ _ _ _ (by omega))) ?_)
  obtain ⟨quota, hqd⟩ : ∃ n, 1 + quota0 % 200 = n := ⟨_, rfl⟩
  have hq : 1 ≤ quota ∧ quota ≤ 200 := by omega
  rw [hqd]
  refine (WL_pure rfl rfl (by decide) (Pu_assign rfl rfl) (WL_pure rfl rfl (by decide) (Pu_assign rfl rfl) (WL_nil (X_then ?_))))
  refine W_seq ?_
  refine W.pre (K' := [(0, _), (1, _), (2, _), (6, _), (8, _), (10, _), (28, _), (43, _)]) (L' := [(0, _)]) ?_ ⟨rfl, ⟨rfl, ⟨rfl, ⟨rfl, ⟨rfl, ⟨rfl, ⟨rfl, ⟨rfl, trivial⟩⟩⟩⟩⟩⟩⟩⟩ ⟨rfl, trivial⟩
  refine W_regL (WL_pure rfl rfl (by decide) (Pu_move rfl rfl) (WL_pure rfl rfl (by decide) (Pu_move rfl rfl) (WL_cons rfl rfl (by decide) (OpT_call 700 [0] [] rfl Try.call10 rfl rfl rfl (by decide) (by decide) (new_good (room) (quota) (by omega) (by omega) _) (fun v53 Ps53 hR53 => ?_)))))
  obtain ⟨ga, rfl, rfl⟩ := hR53
  refine (WL_pure rfl rfl (by decide) (Pu_move rfl rfl) (WL_pure rfl rfl (by decide) (Pu_extract rfl rfl rfl) (WL_pure rfl rfl (by decide) (Pu_extract rfl rfl rfl) (WL_pure rfl rfl (by decide) (Pu_assign rfl rfl) (WL_pure rfl rfl (by decide) (Pu_assign rfl rfl) (WL_nil (X_then ?_)))))))
  refine W_seq ?_
  refine W.pre (K' := [(0, _), (1, _), (2, _), (6, _), (8, _), (10, _), (11, _), (28, _), (43, _)]) (L' := [(0, _), (700, _)]) ?_ ⟨rfl, ⟨rfl, ⟨rfl, ⟨rfl, ⟨rfl, ⟨rfl, ⟨rfl, ⟨rfl, ⟨rfl, trivial⟩⟩⟩⟩⟩⟩⟩⟩⟩ ⟨rfl, ⟨rfl, trivial⟩⟩
  refine W_regL (WL_pure rfl rfl (by decide) (Pu_move rfl rfl) (WL_pure rfl rfl (by decide) (Pu_move rfl rfl) (WL_cons rfl rfl (by decide) (OpT_call 800 [0, 700] [] rfl Try.call19 rfl rfl rfl (by decide) (by decide) (refNew_good room quota (by omega) (by omega) _) (fun v59 Ps59 hR59 => ?_)))))
  obtain ⟨gx, rfl, rfl⟩ := hR59
  skip
  refine (WL_pure rfl rfl (by decide) (Pu_move rfl rfl) (WL_pure rfl rfl (by decide) (Pu_extract rfl rfl rfl) (WL_pure rfl rfl (by decide) (Pu_extract rfl rfl rfl) (WL_pure rfl rfl (by decide) (Pu_assign rfl rfl) (WL_pure rfl rfl (by decide) (Pu_assign rfl rfl) (WL_nil (X_then ?_)))))))
  refine W_seq ?_
  refine W.pre (K' := [(0, _), (1, _), (2, _), (6, _), (8, _), (10, _), (11, _), (13, _), (28, _), (43, _)]) (L' := [(0, _), (700, _), (800, _), (801, _), (802, _)]) ?_ ⟨rfl, ⟨rfl, ⟨rfl, ⟨rfl, ⟨rfl, ⟨rfl, ⟨rfl, ⟨rfl, ⟨rfl, ⟨rfl, trivial⟩⟩⟩⟩⟩⟩⟩⟩⟩⟩ ⟨rfl, ⟨rfl, ⟨rfl, ⟨rfl, ⟨rfl, trivial⟩⟩⟩⟩⟩
  refine W_regL (WL_pure rfl rfl (by decide) (Pu_assign rfl rfl) (WL_nil (X_then ?_)))
  refine W_seq ?_
  refine W_seq ?_
  refine W.pre (K' := [(0, _), (1, _), (2, _), (6, _), (8, _), (10, _), (11, _), (13, _), (15, _), (28, _), (43, _)]) (L' := [(0, _), (700, _), (800, _), (801, _), (802, _)]) ?_ ⟨rfl, ⟨rfl, ⟨rfl, ⟨rfl, ⟨rfl, ⟨rfl, ⟨rfl, ⟨rfl, ⟨rfl, ⟨rfl, ⟨rfl, trivial⟩⟩⟩⟩⟩⟩⟩⟩⟩⟩⟩ ⟨rfl, ⟨rfl, ⟨rfl, ⟨rfl, ⟨rfl, trivial⟩⟩⟩⟩⟩
  refine W_regL (WL_pure rfl rfl (by decide) (Pu_assign rfl rfl) (WL_nil (X_then ?_)))
  refine W_block ?_
  refine W_loop (α := Nat × Int × Value × List EB) (fun x => [(2, vc), (11, .pointer (some ⟨ga, 0, none⟩)), (13, .pointer (some ⟨gx, 0, none⟩)), (15, .int .i64 x.2.1), (16, .int .i64 (x.1 : Int))]) (fun x => [(0, orig Wo), (700, areaP ga room quota (x.2.2.2.map toBk)), (800, refB gx room quota x.2.2.1), (801, rowB2 x.2.2.1 (sls x.2.2.2)), (802, datP x.2.2.2)]) (fun x => x.2.2.1.oneCell' = true ∧ x.2.2.2.length ≤ x.1 ∧ x.1 ≤ 80 ∧ 0 ≤ x.2.1 ∧ x.2.1 ≤ 5 * (x.1 : Int)) (fun x => 80 - x.1) ((0, 0, .slice none 0 0, [])) ⟨rfl, by simp, by simp, by simp, by simp⟩ ⟨rfl, ⟨rfl, ⟨rfl, ⟨rfl, ⟨rfl, trivial⟩⟩⟩⟩⟩ ⟨rfl, ⟨rfl, ⟨rfl, ⟨rfl, ⟨rfl, trivial⟩⟩⟩⟩⟩ (fun x hx => ?_)
  obtain ⟨i, now, v, zs⟩ := x
  obtain ⟨hv, hzl, hi80, hn0, hn5⟩ := hx
  dsimp only at hv hzl hi80 hn0 hn5
  refine W.pre (K' := [(2, vc), (11, .pointer (some ⟨ga, 0, none⟩)), (13, .pointer (some ⟨gx, 0, none⟩)), (15, .int .i64 now), (16, .int .i64 (i : Int))]) (L' := [(0, orig Wo), (700, areaP ga room quota (zs.map toBk)), (800, refB gx room quota v), (801, rowB2 v (sls zs)), (802, datP zs)]) ?_ ⟨rfl, rfl, rfl, rfl, rfl, trivial⟩ ⟨rfl, rfl, rfl, rfl, rfl, trivial⟩
  refine W_fact (r := 700) rfl (fun h hp => area_ok hp) (fun hok0 => ?_)
  obtain ⟨hsort, hfit⟩ := hok0
  have hfitz : (totE zs : Int) ≤ room := by rw [totE_eq]; exact hfit
  have hml : (zs.map toBk).length = zs.length := List.length_map _
  refine W_seq ?_
  refine W_seq ?_
  refine W.pre (K' := [(2, _), (11, _), (13, _), (15, _), (16, _)]) (L' := [(0, _), (700, _), (800, _), (801, _), (802, _)]) ?_ ⟨rfl, ⟨rfl, ⟨rfl, ⟨rfl, ⟨rfl, trivial⟩⟩⟩⟩⟩ ⟨rfl, ⟨rfl, ⟨rfl, ⟨rfl, ⟨rfl, trivial⟩⟩⟩⟩⟩
  refine W_regL (WL_pure rfl rfl (by decide) (Pu_move rfl rfl) (WL_pure rfl rfl (by decide) (Pu_move rfl rfl) (WL_pure rfl rfl (by decide) (Pu_len (r := 0) rfl Try.runUnderlying22 rfl rfl (fun h hp => Rd.orig hrc h hp)) (WL_pure rfl rfl (by decide) (Pu_bin rfl rfl rfl (run_lss _ _ _ _ _ _)) (WL_pure rfl rfl (by decide) (Pu_move rfl rfl) (WL_guardP rfl rfl rfl rfl (by decide) (fun hb => (Pu_move rfl rfl)) (WL_guardP rfl rfl rfl rfl (by decide) (fun hb => (Pu_bin rfl (ev_gv rfl hb) rfl (run_lss _ _ _ _ _ _))) (WL_pure rfl rfl (by decide) (Pu_and rfl rfl rfl) (WL_nil (X_then ?_))))))))))
  refine W_cond rfl (fun hc69 => ?_) (fun hc69 => ?_)
  ·
    have hi : i < calls.length ∧ i < 80 := by simp at hc69; omega
    obtain ⟨hi1, hi2⟩ := hi
    obtain ⟨c, hcd⟩ : ∃ c, calls.getD i default = c := ⟨_, rfl⟩
    have hck := (hok c (by rw [← hcd]; exact getD_mem' hi1)).key
    refine W_skip (X_then ?_)
    refine W_seq ?_
    refine W_block ?_
    refine W_seq ?_
    refine W.pre (K' := [(2, _), (11, _), (13, _), (15, _), (16, _), (69, _)]) (L' := [(0, _), (700, _), (800, _), (801, _), (802, _)]) ?_ ⟨rfl, ⟨rfl, ⟨rfl, ⟨rfl, ⟨rfl, ⟨rfl, trivial⟩⟩⟩⟩⟩⟩ ⟨rfl, ⟨rfl, ⟨rfl, ⟨rfl, ⟨rfl, trivial⟩⟩⟩⟩⟩
    refine W_regL (WL_pure rfl rfl (by decide) (Pu_move rfl rfl) (WL_pure rfl rfl (by decide) (Pu_move rfl rfl) (WL_pure rfl rfl (by decide) (Pu_idxS (r := 0) rfl Try.runUnderlying22 Try.sizeOf30 rfl rfl rfl (fun h hp => Rd.orig hrc h hp) (by omega)) (WL_pure rfl rfl (by decide) (Pu_loadSN (r := 0) rfl Try.isAgg30 Try.sizeOf30 rfl rfl (fun h hp => Rd.orig hrc h hp) (rfl : (callF (calls.getD i default)).length = 5) (by decide) (call_at (k := i) hi1)) ?_))))
    rw [hcd]
    refine (WL_cons rfl rfl (by decide) (OpT_alloc (r := 804) rfl (zero_run (by kernel_rfl : (Try.prog.info? 30).bind (·.zero) = some (.agg (callF ⟨0, 0, 0, 0, 0⟩).toArray))) rfl (fun g804 => (WL_cons0 rfl rfl (OpT_storeAll (r := 804) rfl Try.sizeOf30 rfl rfl rfl rfl rfl (callF_one _) ?_)))))
    refine (WL_nil (X_then ?_))
    refine W_seq ?_
    refine W.pre (K' := [(2, _), (11, _), (13, _), (15, _), (16, _), (17, _), (69, _)]) (L' := [(0, _), (700, _), (800, _), (801, _), (802, _), (804, _)]) ?_ ⟨rfl, ⟨rfl, ⟨rfl, ⟨rfl, ⟨rfl, ⟨rfl, ⟨rfl, trivial⟩⟩⟩⟩⟩⟩⟩ ⟨rfl, ⟨rfl, ⟨rfl, ⟨rfl, ⟨rfl, ⟨rfl, trivial⟩⟩⟩⟩⟩⟩
    refine W_regL (WL_pure rfl rfl (by decide) (Pu_fieldAddrB (off := 1) rfl rfl (by kernel_rfl)) (WL_pure rfl rfl (by decide) (Pu_loadB (r := 804) rfl Try.isAgg3 rfl rfl rfl) (WL_cons rfl rfl (by decide) (OpT_call 900 [0, 700, 800, 801, 802, 804] [] rfl Try.call14 rfl rfl rfl (by decide) (by decide) (key_spec c.key hck.1 hck.2 _) (fun v78 Ps78 hR78 => ?_)))))
    obtain ⟨rfl, rfl⟩ := hR78
    refine (WL_cons rfl rfl (by decide) (OpT_alloc (r := 901) rfl (zero_run (by kernel_rfl : (Try.prog.info? 36).bind (·.zero) = some (.agg (bs zeroId).toArray))) rfl (fun g901 => (WL_cons0 rfl rfl (OpT_storeAll (r := 901) rfl Try.sizeOf36 rfl rfl rfl rfl ((bs_length _).trans (keyA_length c.key)) (bs_one _) ?_)))))
    refine (WL_nil (X_then ?_))
    refine W_cut (α := Int × Value × List EB) (fun z => [(2, vc), (11, .pointer (some ⟨ga, 0, none⟩)), (13, .pointer (some ⟨gx, 0, none⟩)), (15, .int .i64 z.1), (16, .int .i64 (i : Int)), (17, .pointer (some ⟨g804, 0, none⟩))]) (fun z => [(0, orig Wo), (700, areaP ga room quota (z.2.2.map toBk)), (800, refB gx room quota z.2.1), (801, rowB2 z.2.1 (sls z.2.2)), (802, datP z.2.2), (804, blk g804 30 (callF c))]) (fun z => z.2.1.oneCell' = true ∧ z.2.2.length ≤ i + 1 ∧ 0 ≤ z.1 ∧ z.1 ≤ 5 * ((i + 1 : Nat) : Int)) ?_ (fun z hz => ?_)
    ·
      refine W_seq ?_
      refine W.pre (K' := [(2, _), (11, _), (13, _), (15, _), (16, _), (17, _), (18, _), (69, _)]) (L' := [(0, _), (700, _), (800, _), (801, _), (802, _), (804, _), (901, _)]) ?_ ⟨rfl, ⟨rfl, ⟨rfl, ⟨rfl, ⟨rfl, ⟨rfl, ⟨rfl, ⟨rfl, trivial⟩⟩⟩⟩⟩⟩⟩⟩ ⟨rfl, ⟨rfl, ⟨rfl, ⟨rfl, ⟨rfl, ⟨rfl, ⟨rfl, trivial⟩⟩⟩⟩⟩⟩⟩
      refine W_regL (WL_pure rfl rfl (by decide) (Pu_fieldAddrB (off := 0) rfl rfl (by kernel_rfl)) (WL_pure rfl rfl (by decide) (Pu_loadB (r := 804) rfl Try.isAgg3 rfl rfl rfl) (WL_cons rfl rfl (by decide) (OpT_call 1000 [0, 700, 800, 801, 802, 804, 901] [] rfl Try.call9 rfl rfl rfl (by decide) (by decide) (within_spec c.kind 7 (by omega) (by omega) _) (fun v81 Ps81 hR81 => ?_)))))
      obtain ⟨rfl, rfl⟩ := hR81
      obtain ⟨kd, hkd⟩ : ∃ n, c.kind % 7 = n := ⟨_, rfl⟩
      have hk7 : 0 ≤ kd ∧ kd < 7 := by omega
      rw [hkd]
      refine (WL_nil (X_then ?_))
      refine W_block ?_
      refine W_cut (α := Bool) (fun bb => [(2, vc), (11, .pointer (some ⟨ga, 0, none⟩)), (13, .pointer (some ⟨gx, 0, none⟩)), (15, .int .i64 now), (16, .int .i64 (i : Int)), (17, .pointer (some ⟨g804, 0, none⟩)), (18, .pointer (some ⟨g901, 0, none⟩)), (81, .int .i64 kd), (82, .bool bb)]) (fun bb => [(0, orig Wo), (700, areaP ga room quota (zs.map toBk)), (800, refB gx room quota v), (801, rowB2 v (sls zs)), (802, datP zs), (804, blk g804 30 (callF c)), (901, blk g901 36 (bs (keyA c.key)))]) (fun bb => bb = decide (kd ≤ 2)) ?_ (fun bb hbb => ?_)
      ·
        refine W_seq ?_
        refine W.pre (K' := [(2, _), (11, _), (13, _), (15, _), (16, _), (17, _), (18, _), (69, _), (81, _)]) (L' := [(0, _), (700, _), (800, _), (801, _), (802, _), (804, _), (901, _)]) ?_ ⟨rfl, ⟨rfl, ⟨rfl, ⟨rfl, ⟨rfl, ⟨rfl, ⟨rfl, ⟨rfl, ⟨rfl, trivial⟩⟩⟩⟩⟩⟩⟩⟩⟩ ⟨rfl, ⟨rfl, ⟨rfl, ⟨rfl, ⟨rfl, ⟨rfl, ⟨rfl, trivial⟩⟩⟩⟩⟩⟩⟩
        refine W_regL (WL_pure rfl rfl (by decide) (Pu_bin rfl rfl rfl (run_eql _ _ _ _ _ _)) (WL_pure rfl rfl (by decide) (Pu_assign rfl rfl) (WL_nil (X_then ?_))))
        refine W_cond rfl (fun hc82 => ?_) (fun hc82 => ?_)
        ·
          refine W_skip ?_
          exact X_cut (decide (kd = 0)) (by rw [of_decide_eq_true hc82]; rfl) ⟨rfl, rfl, rfl, rfl, rfl, rfl, rfl, rfl, rfl, trivial⟩ ⟨rfl, rfl, rfl, rfl, rfl, rfl, rfl, trivial⟩
        ·
          have h820 := hc82
          refine W_seq ?_
          refine W.pre (K' := [(2, _), (11, _), (13, _), (15, _), (16, _), (17, _), (18, _), (69, _), (81, _), (82, _)]) (L' := [(0, _), (700, _), (800, _), (801, _), (802, _), (804, _), (901, _)]) ?_ ⟨rfl, ⟨rfl, ⟨rfl, ⟨rfl, ⟨rfl, ⟨rfl, ⟨rfl, ⟨rfl, ⟨rfl, ⟨rfl, trivial⟩⟩⟩⟩⟩⟩⟩⟩⟩⟩ ⟨rfl, ⟨rfl, ⟨rfl, ⟨rfl, ⟨rfl, ⟨rfl, ⟨rfl, trivial⟩⟩⟩⟩⟩⟩⟩
          refine W_regL (WL_pure rfl rfl (by decide) (Pu_bin rfl rfl rfl (run_eql _ _ _ _ _ _)) (WL_pure rfl rfl (by decide) (Pu_assign rfl rfl) (WL_nil (X_then ?_))))
          refine W_cond rfl (fun hc82 => ?_) (fun hc82 => ?_)
          ·
            refine W_skip ?_
            exact X_cut (decide (kd = 1)) (by rw [of_decide_eq_true hc82]; rfl) ⟨rfl, rfl, rfl, rfl, rfl, rfl, rfl, rfl, rfl, trivial⟩ ⟨rfl, rfl, rfl, rfl, rfl, rfl, rfl, trivial⟩
          ·
            have h821 := hc82
            refine W.pre (K' := [(2, _), (11, _), (13, _), (15, _), (16, _), (17, _), (18, _), (69, _), (81, _), (82, _)]) (L' := [(0, _), (700, _), (800, _), (801, _), (802, _), (804, _), (901, _)]) ?_ ⟨rfl, ⟨rfl, ⟨rfl, ⟨rfl, ⟨rfl, ⟨rfl, ⟨rfl, ⟨rfl, ⟨rfl, ⟨rfl, trivial⟩⟩⟩⟩⟩⟩⟩⟩⟩⟩ ⟨rfl, ⟨rfl, ⟨rfl, ⟨rfl, ⟨rfl, ⟨rfl, ⟨rfl, trivial⟩⟩⟩⟩⟩⟩⟩
            refine W_regL (WL_pure rfl rfl (by decide) (Pu_bin rfl rfl rfl (run_eql _ _ _ _ _ _)) (WL_pure rfl rfl (by decide) (Pu_assign rfl rfl) (WL_nil ?_)))
            exact X_cut (decide (kd = 2)) (by have h1 := of_decide_eq_false h820; have h2 := of_decide_eq_false h821; exact decide_eq_decide.2 (by omega)) ⟨rfl, rfl, rfl, rfl, rfl, rfl, rfl, rfl, rfl, trivial⟩ ⟨rfl, rfl, rfl, rfl, rfl, rfl, rfl, trivial⟩
      ·
        refine W_cond rfl (fun hc82 => ?_) (fun hc82 => ?_)
        ·
          have hk2 : kd ≤ 2 := by rw [hbb] at hc82; exact of_decide_eq_true hc82
          refine W_seq ?_
          refine W.pre (K' := [(2, _), (11, _), (13, _), (15, _), (16, _), (17, _), (18, _), (81, _), (82, _)]) (L' := [(0, _), (700, _), (800, _), (801, _), (802, _), (804, _), (901, _)]) ?_ ⟨rfl, ⟨rfl, ⟨rfl, ⟨rfl, ⟨rfl, ⟨rfl, ⟨rfl, ⟨rfl, ⟨rfl, trivial⟩⟩⟩⟩⟩⟩⟩⟩⟩ ⟨rfl, ⟨rfl, ⟨rfl, ⟨rfl, ⟨rfl, ⟨rfl, ⟨rfl, trivial⟩⟩⟩⟩⟩⟩⟩
          refine W_draw (N := 16) (by kernel_rfl) rfl [(0, _), (800, _), (804, _), (901, _)] ⟨rfl, ⟨rfl, ⟨rfl, ⟨rfl, trivial⟩⟩⟩⟩ ?_
          refine (AH_take 0 rfl (by kernel_rfl) (by kernel_rfl) (by kernel_rfl) rfl rfl (by decide) (Pu_loadBN (r := 901) rfl Try.isAgg36 Try.sizeOf36 rfl rfl ((bs_length _).trans (keyA_length c.key)) (load_all ((bs_length _).trans (keyA_length c.key)))) (AH_take 1 rfl (by kernel_rfl) (by kernel_rfl) (by kernel_rfl) rfl rfl (by decide) (Pu_fieldAddrB (off := 3) rfl rfl (by kernel_rfl)) (AH_take 2 rfl (by kernel_rfl) (by kernel_rfl) (by kernel_rfl) rfl rfl (by decide) (Pu_loadB (r := 804) rfl Try.isAgg3 rfl rfl rfl) (AH_take 4 rfl (by kernel_rfl) (by kernel_rfl) (by kernel_rfl) rfl rfl (by decide) (Pu_move rfl rfl) (AH_take 5 rfl (by kernel_rfl) (by kernel_rfl) (by kernel_rfl) rfl rfl (by decide) (Pu_bin rfl rfl rfl (run_rem _ _ _ _ _ (by omega))) (AH_take 6 rfl (by kernel_rfl) (by kernel_rfl) (by kernel_rfl) rfl rfl (by decide) (Pu_bin rfl rfl rfl (run_quo _ _ _ _ _ (by omega))) (AH_take 8 rfl (by kernel_rfl) (by kernel_rfl) (by kernel_rfl) rfl rfl (by decide) (Pu_move rfl rfl) (AH_take 9 rfl (by kernel_rfl) (by kernel_rfl) (by kernel_rfl) rfl rfl (by decide) (Pu_fieldAddrB (off := 4) rfl rfl (by kernel_rfl)) (AH_take 10 rfl (by kernel_rfl) (by kernel_rfl) (by kernel_rfl) rfl rfl (by decide) (Pu_loadB (r := 804) rfl Try.isAgg3 rfl rfl rfl) (AH_ready [3, 14] (by kernel_rfl) (by decide) ?_))))))))))
          refine AHs_cons rfl rfl rfl (by decide) (OpT_call 1100 [0, 700, 800, 801, 802, 804, 901] [] rfl Try.call9 rfl rfl rfl (by decide) (by decide) (within_spec c.src 4 (by omega) (by omega) _) (fun v89 Ps89 hR89 => ?_)) ?_
          ·
            obtain ⟨rfl, rfl⟩ := hR89
            refine ⟨⟨rfl, ⟨rfl, ⟨rfl, ⟨rfl, trivial⟩⟩⟩⟩, ?_⟩
            refine (AH_take 7 rfl (by kernel_rfl) (by kernel_rfl) (by kernel_rfl) rfl rfl (by decide) (Pu_bin rfl rfl rfl (run_sub _ _ _ _ _ (by omega))) (AH_ready [11, 14] (by kernel_rfl) (by decide) ?_))
            refine AHs_cons rfl rfl rfl (by decide) (OpT_call 1200 [0, 700, 800, 801, 802, 804, 901] [] rfl Try.call9 rfl rfl rfl (by decide) (by decide) (within_spec c.dur 12 (by omega) (by omega) _) (fun v97 Ps97 hR97 => ?_)) ?_
            ·
              obtain ⟨rfl, rfl⟩ := hR97
              refine ⟨⟨rfl, ⟨rfl, ⟨rfl, ⟨rfl, trivial⟩⟩⟩⟩, ?_⟩
              refine (AH_take 12 rfl (by kernel_rfl) (by kernel_rfl) (by kernel_rfl) rfl rfl (by decide) (Pu_bin rfl rfl rfl (run_add _ _ _ _ _ (by omega))) (AH_take 13 rfl (by kernel_rfl) (by kernel_rfl) (by kernel_rfl) rfl rfl (by decide) (Pu_bk (keyA_length c.key) (show (Value.slice none 0 0).oneCell' = true from rfl) rfl rfl (.k (keyA_length c.key) (.s (.e (.nil _))))) (AH_ready [14] (by kernel_rfl) (by decide) ?_)))
              refine AHs_cons rfl rfl rfl (by decide) (OpT_alloc (r := 1201) rfl (zero_run (by kernel_rfl : (Try.prog.info? 40).bind (·.zero) = some (.agg (bkC zeroId (.slice none 0 0) 0 0).toArray))) rfl (fun g1201 => ⟨⟨rfl, ⟨rfl, ⟨rfl, ⟨rfl, trivial⟩⟩⟩⟩, ?_⟩)) ?_
              ·
                refine (AH_ready [15] (by kernel_rfl) (by decide) ?_)
                refine AHs_cons0 rfl rfl rfl (OpT_storeAll (r := 1201) rfl Try.sizeOf40 rfl rfl rfl (bkC_length rfl) (bvC_length _) (bvC_one _) ?_) ?_
                ·
                  refine ⟨⟨rfl, ⟨rfl, ⟨rfl, ⟨rfl, trivial⟩⟩⟩⟩, ?_⟩
                  refine (AH_done (by kernel_rfl) (X_then ?_))
                  refine W_seq ?_
                  refine W_seq ?_
                  refine W.pre (K' := [(2, _), (11, _), (13, _), (15, _), (16, _), (17, _), (18, _), (19, _), (81, _), (82, _)]) (L' := [(0, _), (700, _), (800, _), (801, _), (802, _), (804, _), (901, _), (1201, _)]) ?_ ⟨rfl, ⟨rfl, ⟨rfl, ⟨rfl, ⟨rfl, ⟨rfl, ⟨rfl, ⟨rfl, ⟨rfl, ⟨rfl, trivial⟩⟩⟩⟩⟩⟩⟩⟩⟩⟩ ⟨rfl, ⟨rfl, ⟨rfl, ⟨rfl, ⟨rfl, ⟨rfl, ⟨rfl, ⟨rfl, trivial⟩⟩⟩⟩⟩⟩⟩⟩
                  refine W_regL (WL_pure rfl rfl (by decide) (Pu_assign rfl rfl) (WL_nil (X_then ?_)))
                  refine W_block ?_
                  refine W_nilRow 390 5 1 ?_
                  refine W_loop (α := BV × List UInt8) (fun y => [(2, vc), (11, .pointer (some ⟨ga, 0, none⟩)), (13, .pointer (some ⟨gx, 0, none⟩)), (15, .int .i64 now), (16, .int .i64 (i : Int)), (17, .pointer (some ⟨g804, 0, none⟩)), (19, .pointer (some ⟨g1201, 0, none⟩)), (20, .int .i64 (y.2.length : Int))]) (fun y => [(0, orig Wo), (700, areaP ga room quota (zs.map toBk)), (800, refB gx room quota v), (801, rowB2 v (sls zs)), (802, datP zs), (804, blk g804 30 (callF c)), (1201, blk g1201 40 (bvC y.1)), (390, rowB 5 y.1.sl y.2)]) (fun y => True ∧ y.2.length ≤ 80) (fun y => 80 - y.2.length) ((mkB (keyA c.key) (.slice none 0 0) (c.src % 4 - (i : Int) % 9 / 8) (now + c.dur % 12) (keyA_length c.key) rfl, [])) ⟨trivial, by simp⟩ ⟨rfl, ⟨rfl, ⟨rfl, ⟨rfl, ⟨rfl, ⟨rfl, ⟨rfl, ⟨rfl, trivial⟩⟩⟩⟩⟩⟩⟩⟩ ⟨rfl, ⟨rfl, ⟨rfl, ⟨rfl, ⟨rfl, ⟨rfl, ⟨rfl, ⟨rfl, trivial⟩⟩⟩⟩⟩⟩⟩⟩ (fun y hy => ?_)
                  obtain ⟨hy1, hy2⟩ := hy
                  refine W_seq ?_
                  refine W_seq ?_
                  refine W.pre (K' := [(2, _), (11, _), (13, _), (15, _), (16, _), (17, _), (19, _), (20, _)]) (L' := [(0, _), (390, _), (700, _), (800, _), (801, _), (802, _), (804, _), (1201, _)]) ?_ ⟨rfl, ⟨rfl, ⟨rfl, ⟨rfl, ⟨rfl, ⟨rfl, ⟨rfl, ⟨rfl, trivial⟩⟩⟩⟩⟩⟩⟩⟩ ⟨rfl, ⟨rfl, ⟨rfl, ⟨rfl, ⟨rfl, ⟨rfl, ⟨rfl, ⟨rfl, trivial⟩⟩⟩⟩⟩⟩⟩⟩
                  refine W_regL (WL_pure rfl rfl (by decide) (Pu_move rfl rfl) (WL_pure rfl rfl (by decide) (Pu_fieldAddrB (off := 2) rfl rfl (by kernel_rfl)) (WL_pure rfl rfl (by decide) (Pu_loadB (r := 804) rfl Try.isAgg3 rfl rfl rfl) (WL_cons rfl rfl (by decide) (OpT_call 1300 [0, 390, 700, 800, 801, 802, 804, 1201] [] rfl Try.call9 rfl rfl rfl (by decide) (by decide) (within_spec c.size 80 (by omega) (by omega) _) (fun v103 Ps103 hR103 => ?_))))))
                  obtain ⟨rfl, rfl⟩ := hR103
                  refine (WL_pure rfl rfl (by decide) (Pu_bin rfl rfl rfl (run_lss _ _ _ _ _ _)) (WL_nil (X_then ?_)))
                  refine W_cond rfl (fun hc104 => ?_) (fun hc104 => ?_)
                  ·
                    have hyl : y.2.length < 80 := by have := of_decide_eq_true hc104; omega
                    refine W_skip (X_then ?_)
                    refine W_seq ?_
                    refine W_block ?_
                    refine W.pre (K' := [(2, _), (11, _), (13, _), (15, _), (16, _), (17, _), (19, _), (20, _), (104, _)]) (L' := [(0, _), (390, _), (700, _), (800, _), (801, _), (802, _), (804, _), (1201, _)]) ?_ ⟨rfl, ⟨rfl, ⟨rfl, ⟨rfl, ⟨rfl, ⟨rfl, ⟨rfl, ⟨rfl, ⟨rfl, trivial⟩⟩⟩⟩⟩⟩⟩⟩⟩ ⟨rfl, ⟨rfl, ⟨rfl, ⟨rfl, ⟨rfl, ⟨rfl, ⟨rfl, ⟨rfl, trivial⟩⟩⟩⟩⟩⟩⟩⟩
                    refine W_regL (WL_pure rfl rfl (by decide) (Pu_fieldAddrB (off := 32) rfl rfl (by kernel_rfl)) (WL_pure rfl rfl (by decide) (Pu_loadB (r := 1201) rfl Try.isAgg38 rfl rfl (bk_data y.1.len)) (WL_pure rfl rfl (by decide) (Pu_move rfl rfl) (WL_pure rfl rfl (by decide) (Pu_move rfl rfl) (WL_pure rfl rfl (by decide) (Pu_bin rfl rfl rfl (run_add _ _ _ _ _ (by omega))) (WL_pure rfl rfl (by decide) (Pu_conv rfl rfl (conv_byte _ _ Try.runUnderlying3 Try.runUnderlying5)) (WL_cons rfl rfl (by decide) (OpT_buildOnes (r := 1301) (bs [byte ((i : Int) + (y.2.length : Int))]) rfl rfl Try.runUnderlying38 Try.sizeOf5 Try.zeroValue5 rfl rfl (by decide) rfl (bs_cells _) (fun v113 => (WL_cons rfl rfl (by decide) (OpT_append (r := 390) (r2 := 1301) rfl Try.underlying38 TI.hi5 TI.hz5 TI.hs5 TI.hby5 TI.hzs5 (by decide) rfl rfl rfl rfl (fun _ h => rowP_rd h) (bs_one _) (by unfold maxLen; omega) (by omega) (fun v114 => ?_))))))))))))
                    refine WL_fact (r := 390) rfl (fun h hp => rd_one (rowP_rd hp)) (fun ho114 => ?_)
                    refine (WL_pure rfl rfl (by decide) (Pu_fieldAddrB (off := 32) rfl rfl (by kernel_rfl)) (WL_cons0 rfl rfl (OpT_storeB1 (r := 1201) rfl Try.sizeOf38 rfl rfl rfl ho114 (by rw [bvC_length]; decide) (bk_set_data y.1.len _) ?_)))
                    refine (WL_nil (X_block (X_then ?_)))
                    refine W.pre (K' := [(2, _), (11, _), (13, _), (15, _), (16, _), (17, _), (19, _), (20, _), (104, _)]) (L' := [(0, _), (390, _), (700, _), (800, _), (801, _), (802, _), (804, _), (1201, _), (1301, _)]) ?_ ⟨rfl, ⟨rfl, ⟨rfl, ⟨rfl, ⟨rfl, ⟨rfl, ⟨rfl, ⟨rfl, ⟨rfl, trivial⟩⟩⟩⟩⟩⟩⟩⟩⟩ ⟨rfl, ⟨rfl, ⟨rfl, ⟨rfl, ⟨rfl, ⟨rfl, ⟨rfl, ⟨rfl, ⟨rfl, trivial⟩⟩⟩⟩⟩⟩⟩⟩⟩
                    refine W_regL (WL_pure rfl rfl (by decide) (Pu_move rfl rfl) (WL_pure rfl rfl (by decide) (Pu_bin rfl rfl rfl (run_add _ _ _ _ _ (by omega))) (WL_pure rfl rfl (by decide) (Pu_assign rfl rfl) (WL_nil ?_))))
                    refine X_turn (P' := rowB 5 v114 (y.2 ++ [byte ((i : Int) + (y.2.length : Int))])) 390 rfl (fun h hp => rowB_app hp) ?_
                    exact X_round (setSl v114 ho114 y.1, y.2 ++ [byte ((i : Int) + (y.2.length : Int))]) ⟨hy1, by rw [List.length_append]; simp; omega⟩ (by show 80 - (y.2 ++ [_]).length < 80 - y.2.length; rw [List.length_append]; simp; omega) ⟨rfl, rfl, rfl, rfl, rfl, rfl, rfl, lookV_eq rfl (int_eq (by rw [List.length_append]; simp)), trivial⟩ ⟨rfl, rfl, rfl, rfl, rfl, rfl, rfl, rfl, trivial⟩
                  ·
                    refine W_exit (X_then_exit (X_then_exit (X_block_exit (X_then ?_))))
                    refine W_seq ?_
                    refine W.pre (K' := [(2, _), (11, _), (13, _), (15, _), (16, _), (17, _), (19, _), (20, _), (104, _)]) (L' := [(0, _), (390, _), (700, _), (800, _), (801, _), (802, _), (804, _), (1201, _)]) ?_ ⟨rfl, ⟨rfl, ⟨rfl, ⟨rfl, ⟨rfl, ⟨rfl, ⟨rfl, ⟨rfl, ⟨rfl, trivial⟩⟩⟩⟩⟩⟩⟩⟩⟩ ⟨rfl, ⟨rfl, ⟨rfl, ⟨rfl, ⟨rfl, ⟨rfl, ⟨rfl, ⟨rfl, trivial⟩⟩⟩⟩⟩⟩⟩⟩
                    refine W_regL (WL_pure rfl rfl (by decide) (Pu_loadBN (r := 1201) rfl Try.isAgg40 Try.sizeOf40 rfl rfl (bvC_length y.1) (load_all (bvC_length y.1))) (WL_cons rfl rfl (by decide) (OpT_alloc (r := 1301) rfl (zero_run (by kernel_rfl : (Try.prog.info? 40).bind (·.zero) = some (.agg (bkC zeroId (.slice none 0 0) 0 0).toArray))) rfl (fun g1301 => (WL_cons0 rfl rfl (OpT_storeAll (r := 1301) rfl Try.sizeOf40 rfl rfl rfl (bkC_length rfl) (bvC_length _) (bvC_one _) ?_))))))
                    refine (WL_nil (X_then ?_))
                    refine W_seq ?_
                    refine W.pre (K' := [(2, _), (11, _), (13, _), (15, _), (16, _), (17, _), (19, _), (20, _), (21, _), (104, _)]) (L' := [(0, _), (390, _), (700, _), (800, _), (801, _), (802, _), (804, _), (1201, _), (1301, _)]) ?_ ⟨rfl, ⟨rfl, ⟨rfl, ⟨rfl, ⟨rfl, ⟨rfl, ⟨rfl, ⟨rfl, ⟨rfl, ⟨rfl, trivial⟩⟩⟩⟩⟩⟩⟩⟩⟩⟩ ⟨rfl, ⟨rfl, ⟨rfl, ⟨rfl, ⟨rfl, ⟨rfl, ⟨rfl, ⟨rfl, ⟨rfl, trivial⟩⟩⟩⟩⟩⟩⟩⟩⟩
                    refine W_regL (WL_cons rfl rfl (by decide) (OpT_buildOnes (r := 1302) (bs []) rfl rfl Try.runUnderlying38 Try.sizeOf5 Try.zeroValue5 rfl rfl (by decide) rfl (bs_cells _) (fun v117 => (WL_pure rfl rfl (by decide) (Pu_fieldAddrB (off := 32) rfl rfl (by kernel_rfl)) (WL_pure rfl rfl (by decide) (Pu_loadB (r := 1201) rfl Try.isAgg38 rfl rfl (bk_data y.1.len)) (WL_cons rfl rfl (by decide) (OpT_append (r := 1302) (r2 := 390) rfl Try.underlying38 TI.hi5 TI.hz5 TI.hs5 TI.hby5 TI.hzs5 (by decide) rfl rfl rfl rfl (fun _ h => rowP_rd h) (bs_one _) (by simp; unfold maxLen; omega) (by simp; omega) (fun v120 => ?_))))))))
                    refine WL_fact (r := 1302) rfl (fun h hp => rd_one (rowP_rd hp)) (fun ho120 => ?_)
                    refine (WL_pure rfl rfl (by decide) (Pu_fieldAddrB (off := 32) rfl rfl (by kernel_rfl)) (WL_cons0 rfl rfl (OpT_storeB1 (r := 1301) rfl Try.sizeOf38 rfl rfl rfl ho120 (by rw [bvC_length]; decide) (bk_set_data y.1.len _) ?_)))
                    refine (WL_nil (X_then ?_))
                    refine W_seq ?_
                    refine W_seq ?_
                    refine W.pre (K' := [(2, _), (11, _), (13, _), (15, _), (16, _), (17, _), (19, _), (20, _), (21, _), (104, _)]) (L' := [(0, _), (390, _), (700, _), (800, _), (801, _), (802, _), (804, _), (1201, _), (1301, _), (1302, _)]) ?_ ⟨rfl, ⟨rfl, ⟨rfl, ⟨rfl, ⟨rfl, ⟨rfl, ⟨rfl, ⟨rfl, ⟨rfl, ⟨rfl, trivial⟩⟩⟩⟩⟩⟩⟩⟩⟩⟩ ⟨rfl, ⟨rfl, ⟨rfl, ⟨rfl, ⟨rfl, ⟨rfl, ⟨rfl, ⟨rfl, ⟨rfl, ⟨rfl, trivial⟩⟩⟩⟩⟩⟩⟩⟩⟩⟩
                    have hpl := putA_len room quota (zs.map toBk) (toBk (y.1, y.2)) now
                    have htb : toBk ((setSl v120 ho120 y.1), y.2) = toBk (y.1, y.2) := rfl
                    refine W_draw (N := 9) (by kernel_rfl) rfl [(0, _), (804, _), (1201, _), (1301, _)] ⟨rfl, ⟨rfl, ⟨rfl, ⟨rfl, trivial⟩⟩⟩⟩ ?_
                    refine (AH_take 0 rfl (by kernel_rfl) (by kernel_rfl) (by kernel_rfl) rfl rfl (by decide) (Pu_move rfl rfl) (AH_take 1 rfl (by kernel_rfl) (by kernel_rfl) (by kernel_rfl) rfl rfl (by decide) (Pu_loadBN (r := 1301) rfl Try.isAgg40 Try.sizeOf40 rfl rfl (bvC_length (setSl v120 ho120 y.1)) (load_all (bvC_length (setSl v120 ho120 y.1)))) (AH_take 2 rfl (by kernel_rfl) (by kernel_rfl) (by kernel_rfl) rfl rfl (by decide) (Pu_move rfl rfl) (AH_take 4 rfl (by kernel_rfl) (by kernel_rfl) (by kernel_rfl) rfl rfl (by decide) (Pu_move rfl rfl) (AH_take 5 rfl (by kernel_rfl) (by kernel_rfl) (by kernel_rfl) rfl rfl (by decide) (Pu_loadBN (r := 1201) rfl Try.isAgg40 Try.sizeOf40 rfl rfl (bvC_length y.1) (load_all (bvC_length y.1))) (AH_take 6 rfl (by kernel_rfl) (by kernel_rfl) (by kernel_rfl) rfl rfl (by decide) (Pu_move rfl rfl) (AH_ready [3] (by kernel_rfl) (by decide) ?_)))))))
                    refine AHs_cons rfl rfl rfl (by decide) (OpT_call 1400 [0, 390, 800, 801, 802, 804, 1201, 1301, 1302] [700] rfl Try.call13 rfl rfl rfl (by decide) (by decide) (put_spec ga room quota now (zs.map toBk) (by omega) (setSl v120 ho120 y.1) y.2 _ (rd_star 8 rfl (fun h hp => rdP_cast (rowP_rd hp) rfl (Nat.zero_add _)))) (fun v125 Ps125 hR125 => ?_)) ?_
                    ·
                      obtain ⟨rfl, rfl⟩ := hR125
                      refine ⟨⟨rfl, ⟨rfl, ⟨rfl, ⟨rfl, trivial⟩⟩⟩⟩, ?_⟩
                      rw [htb]
                      refine (AH_ready [7] (by kernel_rfl) (by decide) ?_)
                      refine AHs_cons rfl rfl rfl (by decide) (OpT_call 1500 [0, 390, 804, 1201, 1301, 1302, 1400] [800, 801, 802] rfl Try.call20 rfl rfl rfl (by decide) (by decide) (refPut_spec gx room quota v zs now y.1 y.2 hv hsort (by omega) (by omega) (by omega) _ (rd_star 1 rfl (fun h hp => rowP_rd hp))) (fun v129 Ps129 hR129 => ?_)) ?_
                      ·
                        obtain ⟨v2, ys, rfl, hv2, hys, rfl⟩ := hR129
                        refine ⟨⟨rfl, ⟨rfl, ⟨rfl, ⟨rfl, trivial⟩⟩⟩⟩, ?_⟩
                        skip
                        refine (AH_take 8 rfl (by kernel_rfl) (by kernel_rfl) (by kernel_rfl) rfl rfl (by decide) (Pu_bin rfl rfl rfl (run_neq _ _ _ _ _ _)) (AH_done (by kernel_rfl) (X_then ?_)))
                        refine W_false rfl ((by simp)) ?_
                        refine W_skip (X_then ?_)
                        refine W_seq ?_
                        refine W.pre (K' := [(2, _), (11, _), (13, _), (15, _), (16, _), (17, _), (19, _), (20, _), (21, _), (104, _), (130, _)]) (L' := [(0, _), (390, _), (804, _), (1201, _), (1301, _), (1302, _), (1400, _), (1500, _), (1501, _), (1502, _)]) ?_ ⟨rfl, ⟨rfl, ⟨rfl, ⟨rfl, ⟨rfl, ⟨rfl, ⟨rfl, ⟨rfl, ⟨rfl, ⟨rfl, ⟨rfl, trivial⟩⟩⟩⟩⟩⟩⟩⟩⟩⟩⟩ ⟨rfl, ⟨rfl, ⟨rfl, ⟨rfl, ⟨rfl, ⟨rfl, ⟨rfl, ⟨rfl, ⟨rfl, ⟨rfl, trivial⟩⟩⟩⟩⟩⟩⟩⟩⟩⟩
                        refine W_regL (WL_pure rfl rfl (by decide) (Pu_assign rfl rfl) (WL_nil (X_then ?_)))
                        refine W_block ?_
                        refine W_turn (P' := rowB 5 v120 y.2) 1302 rfl (fun h hp => (congrFun (rowB_zero _ _) h).mp hp) ?_
                        refine W_loop (α := Nat × List UInt8) (fun u => [(2, vc), (11, .pointer (some ⟨ga, 0, none⟩)), (13, .pointer (some ⟨gx, 0, none⟩)), (15, .int .i64 now), (16, .int .i64 (i : Int)), (17, .pointer (some ⟨g804, 0, none⟩)), (21, .pointer (some ⟨g1301, 0, none⟩)), (22, .int .i64 (u.1 : Int))]) (fun u => [(0, orig Wo), (1400, areaP ga room quota (putA room quota (zs.map toBk) (toBk (y.1, y.2)) now).2), (1500, refB gx room quota v2), (1501, rowB2 v2 (sls ys)), (1502, datP ys), (804, blk g804 30 (callF c)), (1301, blk g1301 40 (bvC (setSl v120 ho120 y.1))), (1302, rowB 5 v120 u.2)]) (fun u => u.1 ≤ y.2.length ∧ u.2.length = y.2.length) (fun u => y.2.length - u.1) ((0, y.2)) ⟨Nat.zero_le _, rfl⟩ ⟨rfl, ⟨rfl, ⟨rfl, ⟨rfl, ⟨rfl, ⟨rfl, ⟨rfl, ⟨rfl, trivial⟩⟩⟩⟩⟩⟩⟩⟩ ⟨rfl, ⟨rfl, ⟨rfl, ⟨rfl, ⟨rfl, ⟨rfl, ⟨rfl, ⟨rfl, trivial⟩⟩⟩⟩⟩⟩⟩⟩ (fun u hu => ?_)
                        obtain ⟨hu1, hu2⟩ := hu
                        refine W_seq ?_
                        refine W_seq ?_
                        refine W.pre (K' := [(2, _), (11, _), (13, _), (15, _), (16, _), (17, _), (21, _), (22, _)]) (L' := [(0, _), (804, _), (1301, _), (1302, _), (1400, _), (1500, _), (1501, _), (1502, _)]) ?_ ⟨rfl, ⟨rfl, ⟨rfl, ⟨rfl, ⟨rfl, ⟨rfl, ⟨rfl, ⟨rfl, trivial⟩⟩⟩⟩⟩⟩⟩⟩ ⟨rfl, ⟨rfl, ⟨rfl, ⟨rfl, ⟨rfl, ⟨rfl, ⟨rfl, ⟨rfl, trivial⟩⟩⟩⟩⟩⟩⟩⟩
                        refine W_regL (WL_pure rfl rfl (by decide) (Pu_move rfl rfl) (WL_pure rfl rfl (by decide) (Pu_fieldAddrB (off := 32) rfl rfl (by kernel_rfl)) (WL_pure rfl rfl (by decide) (Pu_loadB (r := 1301) rfl Try.isAgg38 rfl rfl (bk_data (setSl v120 ho120 y.1).len)) (WL_pure rfl rfl (by decide) (Pu_len (r := 1302) rfl Try.runUnderlying38 rfl rfl (fun _ h => rowP_rd h)) (WL_pure rfl rfl (by decide) (Pu_bin rfl rfl rfl (run_lss _ _ _ _ _ _)) (WL_nil (X_then ?_)))))))
                        refine W_cond rfl (fun hc135 => ?_) (fun hc135 => ?_)
                        ·
                          have hul : u.1 < u.2.length := by have := of_decide_eq_true hc135; omega
                          refine W_skip (X_then ?_)
                          refine W_seq ?_
                          refine W_block ?_
                          refine W.pre (K' := [(2, _), (11, _), (13, _), (15, _), (16, _), (17, _), (21, _), (22, _), (135, _)]) (L' := [(0, _), (804, _), (1301, _), (1302, _), (1400, _), (1500, _), (1501, _), (1502, _)]) ?_ ⟨rfl, ⟨rfl, ⟨rfl, ⟨rfl, ⟨rfl, ⟨rfl, ⟨rfl, ⟨rfl, ⟨rfl, trivial⟩⟩⟩⟩⟩⟩⟩⟩⟩ ⟨rfl, ⟨rfl, ⟨rfl, ⟨rfl, ⟨rfl, ⟨rfl, ⟨rfl, ⟨rfl, trivial⟩⟩⟩⟩⟩⟩⟩⟩
                          refine W_regL (WL_pure rfl rfl (by decide) (Pu_fieldAddrB (off := 32) rfl rfl (by kernel_rfl)) (WL_pure rfl rfl (by decide) (Pu_loadB (r := 1301) rfl Try.isAgg38 rfl rfl (bk_data (setSl v120 ho120 y.1).len)) (WL_pure rfl rfl (by decide) (Pu_move rfl rfl) (WL_pure rfl rfl (by decide) (Pu_idxS1 (r := 1302) rfl Try.runUnderlying38 Try.sizeOf5 rfl rfl rfl (fun _ h => rowP_rd h) (by omega)) (WL_cons0 rfl rfl (OpT_storeS1 (r := 1302) rfl Try.sizeOf5 rfl rfl rfl rfl (by rw [bs_length]; omega) (bs_set u.2 u.1 238) ?_))))))
                          refine (WL_nil (X_block (X_then ?_)))
                          refine W.pre (K' := [(2, _), (11, _), (13, _), (15, _), (16, _), (17, _), (21, _), (22, _), (135, _)]) (L' := [(0, _), (804, _), (1301, _), (1302, _), (1400, _), (1500, _), (1501, _), (1502, _)]) ?_ ⟨rfl, ⟨rfl, ⟨rfl, ⟨rfl, ⟨rfl, ⟨rfl, ⟨rfl, ⟨rfl, ⟨rfl, trivial⟩⟩⟩⟩⟩⟩⟩⟩⟩ ⟨rfl, ⟨rfl, ⟨rfl, ⟨rfl, ⟨rfl, ⟨rfl, ⟨rfl, ⟨rfl, trivial⟩⟩⟩⟩⟩⟩⟩⟩
                          refine W_regL (WL_pure rfl rfl (by decide) (Pu_move rfl rfl) (WL_pure rfl rfl (by decide) (Pu_bin rfl rfl rfl (run_add _ _ _ _ _ (by omega))) (WL_pure rfl rfl (by decide) (Pu_assign rfl rfl) (WL_nil ?_))))
                          refine X_turn (P' := rowB 5 v120 (u.2.set u.1 238)) 1302 rfl (fun h hp => (congrFun (rowB_set _ _ _ _) h).mp hp) ?_
                          exact X_round (u.1 + 1, u.2.set u.1 238) ⟨by dsimp only; omega, by rw [List.length_set]; exact hu2⟩ (by show y.2.length - (u.1 + 1) < y.2.length - u.1; omega) ⟨rfl, rfl, rfl, rfl, rfl, rfl, rfl, rfl, trivial⟩ ⟨rfl, rfl, rfl, rfl, rfl, rfl, rfl, rfl, trivial⟩
                        ·
                          have hdone := hc135
                          refine W_exit (X_then_exit (X_then_exit (X_block_exit (X_block ?_))))
                          refine X_ren 1400 700 rfl ?_
                          refine X_ren 1500 800 rfl ?_
                          refine X_ren 1501 801 rfl ?_
                          refine X_ren 1502 802 rfl ?_
                          exact X_cut (now, v2, ys) ⟨hv2, by have := congrArg List.length hys; rw [List.length_map] at this; dsimp only; omega, hn0, by dsimp only; omega⟩ ⟨rfl, rfl, rfl, rfl, rfl, rfl, trivial⟩ ⟨rfl, (look_eq rfl (by rw [hys])), rfl, rfl, rfl, rfl, trivial⟩
                      exact AHs_nil
                    exact AHs_nil
                exact AHs_nil
              exact AHs_nil
            refine AHs_cons rfl rfl rfl (by decide) (OpT_alloc (r := 1101) rfl (zero_run (by kernel_rfl : (Try.prog.info? 40).bind (·.zero) = some (.agg (bkC zeroId (.slice none 0 0) 0 0).toArray))) rfl (fun g1101 => ⟨⟨rfl, ⟨rfl, ⟨rfl, ⟨rfl, trivial⟩⟩⟩⟩, ?_⟩)) ?_
            ·
              refine (AH_ready [11] (by kernel_rfl) (by decide) ?_)
              refine AHs_cons rfl rfl rfl (by decide) (OpT_call 1200 [0, 700, 800, 801, 802, 804, 901, 1101] [] rfl Try.call9 rfl rfl rfl (by decide) (by decide) (within_spec c.dur 12 (by omega) (by omega) _) (fun v97 Ps97 hR97 => ?_)) ?_
              ·
                obtain ⟨rfl, rfl⟩ := hR97
                refine ⟨⟨rfl, ⟨rfl, ⟨rfl, ⟨rfl, trivial⟩⟩⟩⟩, ?_⟩
                refine (AH_take 12 rfl (by kernel_rfl) (by kernel_rfl) (by kernel_rfl) rfl rfl (by decide) (Pu_bin rfl rfl rfl (run_add _ _ _ _ _ (by omega))) (AH_take 13 rfl (by kernel_rfl) (by kernel_rfl) (by kernel_rfl) rfl rfl (by decide) (Pu_bk (keyA_length c.key) (show (Value.slice none 0 0).oneCell' = true from rfl) rfl rfl (.k (keyA_length c.key) (.s (.e (.nil _))))) (AH_ready [15] (by kernel_rfl) (by decide) ?_)))
                refine AHs_cons0 rfl rfl rfl (OpT_storeAll (r := 1101) rfl Try.sizeOf40 rfl rfl rfl (bkC_length rfl) (bvC_length _) (bvC_one _) ?_) ?_
                ·
                  refine ⟨⟨rfl, ⟨rfl, ⟨rfl, ⟨rfl, trivial⟩⟩⟩⟩, ?_⟩
                  refine (AH_done (by kernel_rfl) (X_then ?_))
                  refine W_seq ?_
                  refine W_seq ?_
                  refine W.pre (K' := [(2, _), (11, _), (13, _), (15, _), (16, _), (17, _), (18, _), (19, _), (81, _), (82, _)]) (L' := [(0, _), (700, _), (800, _), (801, _), (802, _), (804, _), (901, _), (1101, _)]) ?_ ⟨rfl, ⟨rfl, ⟨rfl, ⟨rfl, ⟨rfl, ⟨rfl, ⟨rfl, ⟨rfl, ⟨rfl, ⟨rfl, trivial⟩⟩⟩⟩⟩⟩⟩⟩⟩⟩ ⟨rfl, ⟨rfl, ⟨rfl, ⟨rfl, ⟨rfl, ⟨rfl, ⟨rfl, ⟨rfl, trivial⟩⟩⟩⟩⟩⟩⟩⟩
                  refine W_regL (WL_pure rfl rfl (by decide) (Pu_assign rfl rfl) (WL_nil (X_then ?_)))
                  refine W_block ?_
                  refine W_nilRow 390 5 1 ?_
                  refine W_loop (α := BV × List UInt8) (fun y => [(2, vc), (11, .pointer (some ⟨ga, 0, none⟩)), (13, .pointer (some ⟨gx, 0, none⟩)), (15, .int .i64 now), (16, .int .i64 (i : Int)), (17, .pointer (some ⟨g804, 0, none⟩)), (19, .pointer (some ⟨g1101, 0, none⟩)), (20, .int .i64 (y.2.length : Int))]) (fun y => [(0, orig Wo), (700, areaP ga room quota (zs.map toBk)), (800, refB gx room quota v), (801, rowB2 v (sls zs)), (802, datP zs), (804, blk g804 30 (callF c)), (1101, blk g1101 40 (bvC y.1)), (390, rowB 5 y.1.sl y.2)]) (fun y => True ∧ y.2.length ≤ 80) (fun y => 80 - y.2.length) ((mkB (keyA c.key) (.slice none 0 0) (c.src % 4 - (i : Int) % 9 / 8) (now + c.dur % 12) (keyA_length c.key) rfl, [])) ⟨trivial, by simp⟩ ⟨rfl, ⟨rfl, ⟨rfl, ⟨rfl, ⟨rfl, ⟨rfl, ⟨rfl, ⟨rfl, trivial⟩⟩⟩⟩⟩⟩⟩⟩ ⟨rfl, ⟨rfl, ⟨rfl, ⟨rfl, ⟨rfl, ⟨rfl, ⟨rfl, ⟨rfl, trivial⟩⟩⟩⟩⟩⟩⟩⟩ (fun y hy => ?_)
                  obtain ⟨hy1, hy2⟩ := hy
                  refine W_seq ?_
                  refine W_seq ?_
                  refine W.pre (K' := [(2, _), (11, _), (13, _), (15, _), (16, _), (17, _), (19, _), (20, _)]) (L' := [(0, _), (390, _), (700, _), (800, _), (801, _), (802, _), (804, _), (1101, _)]) ?_ ⟨rfl, ⟨rfl, ⟨rfl, ⟨rfl, ⟨rfl, ⟨rfl, ⟨rfl, ⟨rfl, trivial⟩⟩⟩⟩⟩⟩⟩⟩ ⟨rfl, ⟨rfl, ⟨rfl, ⟨rfl, ⟨rfl, ⟨rfl, ⟨rfl, ⟨rfl, trivial⟩⟩⟩⟩⟩⟩⟩⟩
                  refine W_regL (WL_pure rfl rfl (by decide) (Pu_move rfl rfl) (WL_pure rfl rfl (by decide) (Pu_fieldAddrB (off := 2) rfl rfl (by kernel_rfl)) (WL_pure rfl rfl (by decide) (Pu_loadB (r := 804) rfl Try.isAgg3 rfl rfl rfl) (WL_cons rfl rfl (by decide) (OpT_call 1300 [0, 390, 700, 800, 801, 802, 804, 1101] [] rfl Try.call9 rfl rfl rfl (by decide) (by decide) (within_spec c.size 80 (by omega) (by omega) _) (fun v103 Ps103 hR103 => ?_))))))
                  obtain ⟨rfl, rfl⟩ := hR103
                  refine (WL_pure rfl rfl (by decide) (Pu_bin rfl rfl rfl (run_lss _ _ _ _ _ _)) (WL_nil (X_then ?_)))
                  refine W_cond rfl (fun hc104 => ?_) (fun hc104 => ?_)
                  ·
                    have hyl : y.2.length < 80 := by have := of_decide_eq_true hc104; omega
                    refine W_skip (X_then ?_)
                    refine W_seq ?_
                    refine W_block ?_
                    refine W.pre (K' := [(2, _), (11, _), (13, _), (15, _), (16, _), (17, _), (19, _), (20, _), (104, _)]) (L' := [(0, _), (390, _), (700, _), (800, _), (801, _), (802, _), (804, _), (1101, _)]) ?_ ⟨rfl, ⟨rfl, ⟨rfl, ⟨rfl, ⟨rfl, ⟨rfl, ⟨rfl, ⟨rfl, ⟨rfl, trivial⟩⟩⟩⟩⟩⟩⟩⟩⟩ ⟨rfl, ⟨rfl, ⟨rfl, ⟨rfl, ⟨rfl, ⟨rfl, ⟨rfl, ⟨rfl, trivial⟩⟩⟩⟩⟩⟩⟩⟩
                    refine W_regL (WL_pure rfl rfl (by decide) (Pu_fieldAddrB (off := 32) rfl rfl (by kernel_rfl)) (WL_pure rfl rfl (by decide) (Pu_loadB (r := 1101) rfl Try.isAgg38 rfl rfl (bk_data y.1.len)) (WL_pure rfl rfl (by decide) (Pu_move rfl rfl) (WL_pure rfl rfl (by decide) (Pu_move rfl rfl) (WL_pure rfl rfl (by decide) (Pu_bin rfl rfl rfl (run_add _ _ _ _ _ (by omega))) (WL_pure rfl rfl (by decide) (Pu_conv rfl rfl (conv_byte _ _ Try.runUnderlying3 Try.runUnderlying5)) (WL_cons rfl rfl (by decide) (OpT_buildOnes (r := 1301) (bs [byte ((i : Int) + (y.2.length : Int))]) rfl rfl Try.runUnderlying38 Try.sizeOf5 Try.zeroValue5 rfl rfl (by decide) rfl (bs_cells _) (fun v113 => (WL_cons rfl rfl (by decide) (OpT_append (r := 390) (r2 := 1301) rfl Try.underlying38 TI.hi5 TI.hz5 TI.hs5 TI.hby5 TI.hzs5 (by decide) rfl rfl rfl rfl (fun _ h => rowP_rd h) (bs_one _) (by unfold maxLen; omega) (by omega) (fun v114 => ?_))))))))))))
                    refine WL_fact (r := 390) rfl (fun h hp => rd_one (rowP_rd hp)) (fun ho114 => ?_)
                    refine (WL_pure rfl rfl (by decide) (Pu_fieldAddrB (off := 32) rfl rfl (by kernel_rfl)) (WL_cons0 rfl rfl (OpT_storeB1 (r := 1101) rfl Try.sizeOf38 rfl rfl rfl ho114 (by rw [bvC_length]; decide) (bk_set_data y.1.len _) ?_)))
                    refine (WL_nil (X_block (X_then ?_)))
                    refine W.pre (K' := [(2, _), (11, _), (13, _), (15, _), (16, _), (17, _), (19, _), (20, _), (104, _)]) (L' := [(0, _), (390, _), (700, _), (800, _), (801, _), (802, _), (804, _), (1101, _), (1301, _)]) ?_ ⟨rfl, ⟨rfl, ⟨rfl, ⟨rfl, ⟨rfl, ⟨rfl, ⟨rfl, ⟨rfl, ⟨rfl, trivial⟩⟩⟩⟩⟩⟩⟩⟩⟩ ⟨rfl, ⟨rfl, ⟨rfl, ⟨rfl, ⟨rfl, ⟨rfl, ⟨rfl, ⟨rfl, ⟨rfl, trivial⟩⟩⟩⟩⟩⟩⟩⟩⟩
                    refine W_regL (WL_pure rfl rfl (by decide) (Pu_move rfl rfl) (WL_pure rfl rfl (by decide) (Pu_bin rfl rfl rfl (run_add _ _ _ _ _ (by omega))) (WL_pure rfl rfl (by decide) (Pu_assign rfl rfl) (WL_nil ?_))))
                    refine X_turn (P' := rowB 5 v114 (y.2 ++ [byte ((i : Int) + (y.2.length : Int))])) 390 rfl (fun h hp => rowB_app hp) ?_
                    exact X_round (setSl v114 ho114 y.1, y.2 ++ [byte ((i : Int) + (y.2.length : Int))]) ⟨hy1, by rw [List.length_append]; simp; omega⟩ (by show 80 - (y.2 ++ [_]).length < 80 - y.2.length; rw [List.length_append]; simp; omega) ⟨rfl, rfl, rfl, rfl, rfl, rfl, rfl, lookV_eq rfl (int_eq (by rw [List.length_append]; simp)), trivial⟩ ⟨rfl, rfl, rfl, rfl, rfl, rfl, rfl, rfl, trivial⟩
                  ·
                    refine W_exit (X_then_exit (X_then_exit (X_block_exit (X_then ?_))))
                    refine W_seq ?_
                    refine W.pre (K' := [(2, _), (11, _), (13, _), (15, _), (16, _), (17, _), (19, _), (20, _), (104, _)]) (L' := [(0, _), (390, _), (700, _), (800, _), (801, _), (802, _), (804, _), (1101, _)]) ?_ ⟨rfl, ⟨rfl, ⟨rfl, ⟨rfl, ⟨rfl, ⟨rfl, ⟨rfl, ⟨rfl, ⟨rfl, trivial⟩⟩⟩⟩⟩⟩⟩⟩⟩ ⟨rfl, ⟨rfl, ⟨rfl, ⟨rfl, ⟨rfl, ⟨rfl, ⟨rfl, ⟨rfl, trivial⟩⟩⟩⟩⟩⟩⟩⟩
                    refine W_regL (WL_pure rfl rfl (by decide) (Pu_loadBN (r := 1101) rfl Try.isAgg40 Try.sizeOf40 rfl rfl (bvC_length y.1) (load_all (bvC_length y.1))) (WL_cons rfl rfl (by decide) (OpT_alloc (r := 1301) rfl (zero_run (by kernel_rfl : (Try.prog.info? 40).bind (·.zero) = some (.agg (bkC zeroId (.slice none 0 0) 0 0).toArray))) rfl (fun g1301 => (WL_cons0 rfl rfl (OpT_storeAll (r := 1301) rfl Try.sizeOf40 rfl rfl rfl (bkC_length rfl) (bvC_length _) (bvC_one _) ?_))))))
                    refine (WL_nil (X_then ?_))
                    refine W_seq ?_
                    refine W.pre (K' := [(2, _), (11, _), (13, _), (15, _), (16, _), (17, _), (19, _), (20, _), (21, _), (104, _)]) (L' := [(0, _), (390, _), (700, _), (800, _), (801, _), (802, _), (804, _), (1101, _), (1301, _)]) ?_ ⟨rfl, ⟨rfl, ⟨rfl, ⟨rfl, ⟨rfl, ⟨rfl, ⟨rfl, ⟨rfl, ⟨rfl, ⟨rfl, trivial⟩⟩⟩⟩⟩⟩⟩⟩⟩⟩ ⟨rfl, ⟨rfl, ⟨rfl, ⟨rfl, ⟨rfl, ⟨rfl, ⟨rfl, ⟨rfl, ⟨rfl, trivial⟩⟩⟩⟩⟩⟩⟩⟩⟩
                    refine W_regL (WL_cons rfl rfl (by decide) (OpT_buildOnes (r := 1302) (bs []) rfl rfl Try.runUnderlying38 Try.sizeOf5 Try.zeroValue5 rfl rfl (by decide) rfl (bs_cells _) (fun v117 => (WL_pure rfl rfl (by decide) (Pu_fieldAddrB (off := 32) rfl rfl (by kernel_rfl)) (WL_pure rfl rfl (by decide) (Pu_loadB (r := 1101) rfl Try.isAgg38 rfl rfl (bk_data y.1.len)) (WL_cons rfl rfl (by decide) (OpT_append (r := 1302) (r2 := 390) rfl Try.underlying38 TI.hi5 TI.hz5 TI.hs5 TI.hby5 TI.hzs5 (by decide) rfl rfl rfl rfl (fun _ h => rowP_rd h) (bs_one _) (by simp; unfold maxLen; omega) (by simp; omega) (fun v120 => ?_))))))))
                    refine WL_fact (r := 1302) rfl (fun h hp => rd_one (rowP_rd hp)) (fun ho120 => ?_)
                    refine (WL_pure rfl rfl (by decide) (Pu_fieldAddrB (off := 32) rfl rfl (by kernel_rfl)) (WL_cons0 rfl rfl (OpT_storeB1 (r := 1301) rfl Try.sizeOf38 rfl rfl rfl ho120 (by rw [bvC_length]; decide) (bk_set_data y.1.len _) ?_)))
                    refine (WL_nil (X_then ?_))
                    refine W_seq ?_
                    refine W_seq ?_
                    refine W.pre (K' := [(2, _), (11, _), (13, _), (15, _), (16, _), (17, _), (19, _), (20, _), (21, _), (104, _)]) (L' := [(0, _), (390, _), (700, _), (800, _), (801, _), (802, _), (804, _), (1101, _), (1301, _), (1302, _)]) ?_ ⟨rfl, ⟨rfl, ⟨rfl, ⟨rfl, ⟨rfl, ⟨rfl, ⟨rfl, ⟨rfl, ⟨rfl, ⟨rfl, trivial⟩⟩⟩⟩⟩⟩⟩⟩⟩⟩ ⟨rfl, ⟨rfl, ⟨rfl, ⟨rfl, ⟨rfl, ⟨rfl, ⟨rfl, ⟨rfl, ⟨rfl, ⟨rfl, trivial⟩⟩⟩⟩⟩⟩⟩⟩⟩⟩
                    have hpl := putA_len room quota (zs.map toBk) (toBk (y.1, y.2)) now
                    have htb : toBk ((setSl v120 ho120 y.1), y.2) = toBk (y.1, y.2) := rfl
                    refine W_draw (N := 9) (by kernel_rfl) rfl [(0, _), (804, _), (1101, _), (1301, _)] ⟨rfl, ⟨rfl, ⟨rfl, ⟨rfl, trivial⟩⟩⟩⟩ ?_
                    refine (AH_take 0 rfl (by kernel_rfl) (by kernel_rfl) (by kernel_rfl) rfl rfl (by decide) (Pu_move rfl rfl) (AH_take 1 rfl (by kernel_rfl) (by kernel_rfl) (by kernel_rfl) rfl rfl (by decide) (Pu_loadBN (r := 1301) rfl Try.isAgg40 Try.sizeOf40 rfl rfl (bvC_length (setSl v120 ho120 y.1)) (load_all (bvC_length (setSl v120 ho120 y.1)))) (AH_take 2 rfl (by kernel_rfl) (by kernel_rfl) (by kernel_rfl) rfl rfl (by decide) (Pu_move rfl rfl) (AH_take 4 rfl (by kernel_rfl) (by kernel_rfl) (by kernel_rfl) rfl rfl (by decide) (Pu_move rfl rfl) (AH_take 5 rfl (by kernel_rfl) (by kernel_rfl) (by kernel_rfl) rfl rfl (by decide) (Pu_loadBN (r := 1101) rfl Try.isAgg40 Try.sizeOf40 rfl rfl (bvC_length y.1) (load_all (bvC_length y.1))) (AH_take 6 rfl (by kernel_rfl) (by kernel_rfl) (by kernel_rfl) rfl rfl (by decide) (Pu_move rfl rfl) (AH_ready [3] (by kernel_rfl) (by decide) ?_)))))))
                    refine AHs_cons rfl rfl rfl (by decide) (OpT_call 1400 [0, 390, 800, 801, 802, 804, 1101, 1301, 1302] [700] rfl Try.call13 rfl rfl rfl (by decide) (by decide) (put_spec ga room quota now (zs.map toBk) (by omega) (setSl v120 ho120 y.1) y.2 _ (rd_star 8 rfl (fun h hp => rdP_cast (rowP_rd hp) rfl (Nat.zero_add _)))) (fun v125 Ps125 hR125 => ?_)) ?_
                    ·
                      obtain ⟨rfl, rfl⟩ := hR125
                      refine ⟨⟨rfl, ⟨rfl, ⟨rfl, ⟨rfl, trivial⟩⟩⟩⟩, ?_⟩
                      rw [htb]
                      refine (AH_ready [7] (by kernel_rfl) (by decide) ?_)
                      refine AHs_cons rfl rfl rfl (by decide) (OpT_call 1500 [0, 390, 804, 1101, 1301, 1302, 1400] [800, 801, 802] rfl Try.call20 rfl rfl rfl (by decide) (by decide) (refPut_spec gx room quota v zs now y.1 y.2 hv hsort (by omega) (by omega) (by omega) _ (rd_star 1 rfl (fun h hp => rowP_rd hp))) (fun v129 Ps129 hR129 => ?_)) ?_
                      ·
                        obtain ⟨v2, ys, rfl, hv2, hys, rfl⟩ := hR129
                        refine ⟨⟨rfl, ⟨rfl, ⟨rfl, ⟨rfl, trivial⟩⟩⟩⟩, ?_⟩
                        skip
                        refine (AH_take 8 rfl (by kernel_rfl) (by kernel_rfl) (by kernel_rfl) rfl rfl (by decide) (Pu_bin rfl rfl rfl (run_neq _ _ _ _ _ _)) (AH_done (by kernel_rfl) (X_then ?_)))
                        refine W_false rfl ((by simp)) ?_
                        refine W_skip (X_then ?_)
                        refine W_seq ?_
                        refine W.pre (K' := [(2, _), (11, _), (13, _), (15, _), (16, _), (17, _), (19, _), (20, _), (21, _), (104, _), (130, _)]) (L' := [(0, _), (390, _), (804, _), (1101, _), (1301, _), (1302, _), (1400, _), (1500, _), (1501, _), (1502, _)]) ?_ ⟨rfl, ⟨rfl, ⟨rfl, ⟨rfl, ⟨rfl, ⟨rfl, ⟨rfl, ⟨rfl, ⟨rfl, ⟨rfl, ⟨rfl, trivial⟩⟩⟩⟩⟩⟩⟩⟩⟩⟩⟩ ⟨rfl, ⟨rfl, ⟨rfl, ⟨rfl, ⟨rfl, ⟨rfl, ⟨rfl, ⟨rfl, ⟨rfl, ⟨rfl, trivial⟩⟩⟩⟩⟩⟩⟩⟩⟩⟩
                        refine W_regL (WL_pure rfl rfl (by decide) (Pu_assign rfl rfl) (WL_nil (X_then ?_)))
                        refine W_block ?_
                        refine W_turn (P' := rowB 5 v120 y.2) 1302 rfl (fun h hp => (congrFun (rowB_zero _ _) h).mp hp) ?_
                        refine W_loop (α := Nat × List UInt8) (fun u => [(2, vc), (11, .pointer (some ⟨ga, 0, none⟩)), (13, .pointer (some ⟨gx, 0, none⟩)), (15, .int .i64 now), (16, .int .i64 (i : Int)), (17, .pointer (some ⟨g804, 0, none⟩)), (21, .pointer (some ⟨g1301, 0, none⟩)), (22, .int .i64 (u.1 : Int))]) (fun u => [(0, orig Wo), (1400, areaP ga room quota (putA room quota (zs.map toBk) (toBk (y.1, y.2)) now).2), (1500, refB gx room quota v2), (1501, rowB2 v2 (sls ys)), (1502, datP ys), (804, blk g804 30 (callF c)), (1301, blk g1301 40 (bvC (setSl v120 ho120 y.1))), (1302, rowB 5 v120 u.2)]) (fun u => u.1 ≤ y.2.length ∧ u.2.length = y.2.length) (fun u => y.2.length - u.1) ((0, y.2)) ⟨Nat.zero_le _, rfl⟩ ⟨rfl, ⟨rfl, ⟨rfl, ⟨rfl, ⟨rfl, ⟨rfl, ⟨rfl, ⟨rfl, trivial⟩⟩⟩⟩⟩⟩⟩⟩ ⟨rfl, ⟨rfl, ⟨rfl, ⟨rfl, ⟨rfl, ⟨rfl, ⟨rfl, ⟨rfl, trivial⟩⟩⟩⟩⟩⟩⟩⟩ (fun u hu => ?_)
                        obtain ⟨hu1, hu2⟩ := hu
                        refine W_seq ?_
                        refine W_seq ?_
                        refine W.pre (K' := [(2, _), (11, _), (13, _), (15, _), (16, _), (17, _), (21, _), (22, _)]) (L' := [(0, _), (804, _), (1301, _), (1302, _), (1400, _), (1500, _), (1501, _), (1502, _)]) ?_ ⟨rfl, ⟨rfl, ⟨rfl, ⟨rfl, ⟨rfl, ⟨rfl, ⟨rfl, ⟨rfl, trivial⟩⟩⟩⟩⟩⟩⟩⟩ ⟨rfl, ⟨rfl, ⟨rfl, ⟨rfl, ⟨rfl, ⟨rfl, ⟨rfl, ⟨rfl, trivial⟩⟩⟩⟩⟩⟩⟩⟩
                        refine W_regL (WL_pure rfl rfl (by decide) (Pu_move rfl rfl) (WL_pure rfl rfl (by decide) (Pu_fieldAddrB (off := 32) rfl rfl (by kernel_rfl)) (WL_pure rfl rfl (by decide) (Pu_loadB (r := 1301) rfl Try.isAgg38 rfl rfl (bk_data (setSl v120 ho120 y.1).len)) (WL_pure rfl rfl (by decide) (Pu_len (r := 1302) rfl Try.runUnderlying38 rfl rfl (fun _ h => rowP_rd h)) (WL_pure rfl rfl (by decide) (Pu_bin rfl rfl rfl (run_lss _ _ _ _ _ _)) (WL_nil (X_then ?_)))))))
                        refine W_cond rfl (fun hc135 => ?_) (fun hc135 => ?_)
                        ·
                          have hul : u.1 < u.2.length := by have := of_decide_eq_true hc135; omega
                          refine W_skip (X_then ?_)
                          refine W_seq ?_
                          refine W_block ?_
                          refine W.pre (K' := [(2, _), (11, _), (13, _), (15, _), (16, _), (17, _), (21, _), (22, _), (135, _)]) (L' := [(0, _), (804, _), (1301, _), (1302, _), (1400, _), (1500, _), (1501, _), (1502, _)]) ?_ ⟨rfl, ⟨rfl, ⟨rfl, ⟨rfl, ⟨rfl, ⟨rfl, ⟨rfl, ⟨rfl, ⟨rfl, trivial⟩⟩⟩⟩⟩⟩⟩⟩⟩ ⟨rfl, ⟨rfl, ⟨rfl, ⟨rfl, ⟨rfl, ⟨rfl, ⟨rfl, ⟨rfl, trivial⟩⟩⟩⟩⟩⟩⟩⟩
                          refine W_regL (WL_pure rfl rfl (by decide) (Pu_fieldAddrB (off := 32) rfl rfl (by kernel_rfl)) (WL_pure rfl rfl (by decide) (Pu_loadB (r := 1301) rfl Try.isAgg38 rfl rfl (bk_data (setSl v120 ho120 y.1).len)) (WL_pure rfl rfl (by decide) (Pu_move rfl rfl) (WL_pure rfl rfl (by decide) (Pu_idxS1 (r := 1302) rfl Try.runUnderlying38 Try.sizeOf5 rfl rfl rfl (fun _ h => rowP_rd h) (by omega)) (WL_cons0 rfl rfl (OpT_storeS1 (r := 1302) rfl Try.sizeOf5 rfl rfl rfl rfl (by rw [bs_length]; omega) (bs_set u.2 u.1 238) ?_))))))
                          refine (WL_nil (X_block (X_then ?_)))
                          refine W.pre (K' := [(2, _), (11, _), (13, _), (15, _), (16, _), (17, _), (21, _), (22, _), (135, _)]) (L' := [(0, _), (804, _), (1301, _), (1302, _), (1400, _), (1500, _), (1501, _), (1502, _)]) ?_ ⟨rfl, ⟨rfl, ⟨rfl, ⟨rfl, ⟨rfl, ⟨rfl, ⟨rfl, ⟨rfl, ⟨rfl, trivial⟩⟩⟩⟩⟩⟩⟩⟩⟩ ⟨rfl, ⟨rfl, ⟨rfl, ⟨rfl, ⟨rfl, ⟨rfl, ⟨rfl, ⟨rfl, trivial⟩⟩⟩⟩⟩⟩⟩⟩
                          refine W_regL (WL_pure rfl rfl (by decide) (Pu_move rfl rfl) (WL_pure rfl rfl (by decide) (Pu_bin rfl rfl rfl (run_add _ _ _ _ _ (by omega))) (WL_pure rfl rfl (by decide) (Pu_assign rfl rfl) (WL_nil ?_))))
                          refine X_turn (P' := rowB 5 v120 (u.2.set u.1 238)) 1302 rfl (fun h hp => (congrFun (rowB_set _ _ _ _) h).mp hp) ?_
                          exact X_round (u.1 + 1, u.2.set u.1 238) ⟨by dsimp only; omega, by rw [List.length_set]; exact hu2⟩ (by show y.2.length - (u.1 + 1) < y.2.length - u.1; omega) ⟨rfl, rfl, rfl, rfl, rfl, rfl, rfl, rfl, trivial⟩ ⟨rfl, rfl, rfl, rfl, rfl, rfl, rfl, rfl, trivial⟩
                        ·
                          have hdone := hc135
                          refine W_exit (X_then_exit (X_then_exit (X_block_exit (X_block ?_))))
                          refine X_ren 1400 700 rfl ?_
                          refine X_ren 1500 800 rfl ?_
                          refine X_ren 1501 801 rfl ?_
                          refine X_ren 1502 802 rfl ?_
                          exact X_cut (now, v2, ys) ⟨hv2, by have := congrArg List.length hys; rw [List.length_map] at this; dsimp only; omega, hn0, by dsimp only; omega⟩ ⟨rfl, rfl, rfl, rfl, rfl, rfl, trivial⟩ ⟨rfl, (look_eq rfl (by rw [hys])), rfl, rfl, rfl, rfl, trivial⟩
                      exact AHs_nil
                    exact AHs_nil
                exact AHs_nil
              exact AHs_nil
            exact AHs_nil
          refine AHs_cons rfl rfl rfl (by decide) (OpT_alloc (r := 1001) rfl (zero_run (by kernel_rfl : (Try.prog.info? 40).bind (·.zero) = some (.agg (bkC zeroId (.slice none 0 0) 0 0).toArray))) rfl (fun g1001 => ⟨⟨rfl, ⟨rfl, ⟨rfl, ⟨rfl, trivial⟩⟩⟩⟩, ?_⟩)) ?_
          ·
            refine (AH_ready [3] (by kernel_rfl) (by decide) ?_)
            refine AHs_cons rfl rfl rfl (by decide) (OpT_call 1100 [0, 700, 800, 801, 802, 804, 901, 1001] [] rfl Try.call9 rfl rfl rfl (by decide) (by decide) (within_spec c.src 4 (by omega) (by omega) _) (fun v89 Ps89 hR89 => ?_)) ?_
            ·
              obtain ⟨rfl, rfl⟩ := hR89
              refine ⟨⟨rfl, ⟨rfl, ⟨rfl, ⟨rfl, trivial⟩⟩⟩⟩, ?_⟩
              refine (AH_take 7 rfl (by kernel_rfl) (by kernel_rfl) (by kernel_rfl) rfl rfl (by decide) (Pu_bin rfl rfl rfl (run_sub _ _ _ _ _ (by omega))) (AH_ready [11] (by kernel_rfl) (by decide) ?_))
              refine AHs_cons rfl rfl rfl (by decide) (OpT_call 1200 [0, 700, 800, 801, 802, 804, 901, 1001] [] rfl Try.call9 rfl rfl rfl (by decide) (by decide) (within_spec c.dur 12 (by omega) (by omega) _) (fun v97 Ps97 hR97 => ?_)) ?_
              ·
                obtain ⟨rfl, rfl⟩ := hR97
                refine ⟨⟨rfl, ⟨rfl, ⟨rfl, ⟨rfl, trivial⟩⟩⟩⟩, ?_⟩
                refine (AH_take 12 rfl (by kernel_rfl) (by kernel_rfl) (by kernel_rfl) rfl rfl (by decide) (Pu_bin rfl rfl rfl (run_add _ _ _ _ _ (by omega))) (AH_take 13 rfl (by kernel_rfl) (by kernel_rfl) (by kernel_rfl) rfl rfl (by decide) (Pu_bk (keyA_length c.key) (show (Value.slice none 0 0).oneCell' = true from rfl) rfl rfl (.k (keyA_length c.key) (.s (.e (.nil _))))) (AH_ready [15] (by kernel_rfl) (by decide) ?_)))
                refine AHs_cons0 rfl rfl rfl (OpT_storeAll (r := 1001) rfl Try.sizeOf40 rfl rfl rfl (bkC_length rfl) (bvC_length _) (bvC_one _) ?_) ?_
                ·
                  refine ⟨⟨rfl, ⟨rfl, ⟨rfl, ⟨rfl, trivial⟩⟩⟩⟩, ?_⟩
                  refine (AH_done (by kernel_rfl) (X_then ?_))
                  refine W_seq ?_
                  refine W_seq ?_
                  refine W.pre (K' := [(2, _), (11, _), (13, _), (15, _), (16, _), (17, _), (18, _), (19, _), (81, _), (82, _)]) (L' := [(0, _), (700, _), (800, _), (801, _), (802, _), (804, _), (901, _), (1001, _)]) ?_ ⟨rfl, ⟨rfl, ⟨rfl, ⟨rfl, ⟨rfl, ⟨rfl, ⟨rfl, ⟨rfl, ⟨rfl, ⟨rfl, trivial⟩⟩⟩⟩⟩⟩⟩⟩⟩⟩ ⟨rfl, ⟨rfl, ⟨rfl, ⟨rfl, ⟨rfl, ⟨rfl, ⟨rfl, ⟨rfl, trivial⟩⟩⟩⟩⟩⟩⟩⟩
                  refine W_regL (WL_pure rfl rfl (by decide) (Pu_assign rfl rfl) (WL_nil (X_then ?_)))
                  refine W_block ?_
                  refine W_nilRow 390 5 1 ?_
                  refine W_loop (α := BV × List UInt8) (fun y => [(2, vc), (11, .pointer (some ⟨ga, 0, none⟩)), (13, .pointer (some ⟨gx, 0, none⟩)), (15, .int .i64 now), (16, .int .i64 (i : Int)), (17, .pointer (some ⟨g804, 0, none⟩)), (19, .pointer (some ⟨g1001, 0, none⟩)), (20, .int .i64 (y.2.length : Int))]) (fun y => [(0, orig Wo), (700, areaP ga room quota (zs.map toBk)), (800, refB gx room quota v), (801, rowB2 v (sls zs)), (802, datP zs), (804, blk g804 30 (callF c)), (1001, blk g1001 40 (bvC y.1)), (390, rowB 5 y.1.sl y.2)]) (fun y => True ∧ y.2.length ≤ 80) (fun y => 80 - y.2.length) ((mkB (keyA c.key) (.slice none 0 0) (c.src % 4 - (i : Int) % 9 / 8) (now + c.dur % 12) (keyA_length c.key) rfl, [])) ⟨trivial, by simp⟩ ⟨rfl, ⟨rfl, ⟨rfl, ⟨rfl, ⟨rfl, ⟨rfl, ⟨rfl, ⟨rfl, trivial⟩⟩⟩⟩⟩⟩⟩⟩ ⟨rfl, ⟨rfl, ⟨rfl, ⟨rfl, ⟨rfl, ⟨rfl, ⟨rfl, ⟨rfl, trivial⟩⟩⟩⟩⟩⟩⟩⟩ (fun y hy => ?_)
                  obtain ⟨hy1, hy2⟩ := hy
                  refine W_seq ?_
                  refine W_seq ?_
                  refine W.pre (K' := [(2, _), (11, _), (13, _), (15, _), (16, _), (17, _), (19, _), (20, _)]) (L' := [(0, _), (390, _), (700, _), (800, _), (801, _), (802, _), (804, _), (1001, _)]) ?_ ⟨rfl, ⟨rfl, ⟨rfl, ⟨rfl, ⟨rfl, ⟨rfl, ⟨rfl, ⟨rfl, trivial⟩⟩⟩⟩⟩⟩⟩⟩ ⟨rfl, ⟨rfl, ⟨rfl, ⟨rfl, ⟨rfl, ⟨rfl, ⟨rfl, ⟨rfl, trivial⟩⟩⟩⟩⟩⟩⟩⟩
                  refine W_regL (WL_pure rfl rfl (by decide) (Pu_move rfl rfl) (WL_pure rfl rfl (by decide) (Pu_fieldAddrB (off := 2) rfl rfl (by kernel_rfl)) (WL_pure rfl rfl (by decide) (Pu_loadB (r := 804) rfl Try.isAgg3 rfl rfl rfl) (WL_cons rfl rfl (by decide) (OpT_call 1300 [0, 390, 700, 800, 801, 802, 804, 1001] [] rfl Try.call9 rfl rfl rfl (by decide) (by decide) (within_spec c.size 80 (by omega) (by omega) _) (fun v103 Ps103 hR103 => ?_))))))
                  obtain ⟨rfl, rfl⟩ := hR103
                  refine (WL_pure rfl rfl (by decide) (Pu_bin rfl rfl rfl (run_lss _ _ _ _ _ _)) (WL_nil (X_then ?_)))
                  refine W_cond rfl (fun hc104 => ?_) (fun hc104 => ?_)
                  ·
                    have hyl : y.2.length < 80 := by have := of_decide_eq_true hc104; omega
                    refine W_skip (X_then ?_)
                    refine W_seq ?_
                    refine W_block ?_
                    refine W.pre (K' := [(2, _), (11, _), (13, _), (15, _), (16, _), (17, _), (19, _), (20, _), (104, _)]) (L' := [(0, _), (390, _), (700, _), (800, _), (801, _), (802, _), (804, _), (1001, _)]) ?_ ⟨rfl, ⟨rfl, ⟨rfl, ⟨rfl, ⟨rfl, ⟨rfl, ⟨rfl, ⟨rfl, ⟨rfl, trivial⟩⟩⟩⟩⟩⟩⟩⟩⟩ ⟨rfl, ⟨rfl, ⟨rfl, ⟨rfl, ⟨rfl, ⟨rfl, ⟨rfl, ⟨rfl, trivial⟩⟩⟩⟩⟩⟩⟩⟩
                    refine W_regL (WL_pure rfl rfl (by decide) (Pu_fieldAddrB (off := 32) rfl rfl (by kernel_rfl)) (WL_pure rfl rfl (by decide) (Pu_loadB (r := 1001) rfl Try.isAgg38 rfl rfl (bk_data y.1.len)) (WL_pure rfl rfl (by decide) (Pu_move rfl rfl) (WL_pure rfl rfl (by decide) (Pu_move rfl rfl) (WL_pure rfl rfl (by decide) (Pu_bin rfl rfl rfl (run_add _ _ _ _ _ (by omega))) (WL_pure rfl rfl (by decide) (Pu_conv rfl rfl (conv_byte _ _ Try.runUnderlying3 Try.runUnderlying5)) (WL_cons rfl rfl (by decide) (OpT_buildOnes (r := 1301) (bs [byte ((i : Int) + (y.2.length : Int))]) rfl rfl Try.runUnderlying38 Try.sizeOf5 Try.zeroValue5 rfl rfl (by decide) rfl (bs_cells _) (fun v113 => (WL_cons rfl rfl (by decide) (OpT_append (r := 390) (r2 := 1301) rfl Try.underlying38 TI.hi5 TI.hz5 TI.hs5 TI.hby5 TI.hzs5 (by decide) rfl rfl rfl rfl (fun _ h => rowP_rd h) (bs_one _) (by unfold maxLen; omega) (by omega) (fun v114 => ?_))))))))))))
                    refine WL_fact (r := 390) rfl (fun h hp => rd_one (rowP_rd hp)) (fun ho114 => ?_)
                    refine (WL_pure rfl rfl (by decide) (Pu_fieldAddrB (off := 32) rfl rfl (by kernel_rfl)) (WL_cons0 rfl rfl (OpT_storeB1 (r := 1001) rfl Try.sizeOf38 rfl rfl rfl ho114 (by rw [bvC_length]; decide) (bk_set_data y.1.len _) ?_)))
                    refine (WL_nil (X_block (X_then ?_)))
                    refine W.pre (K' := [(2, _), (11, _), (13, _), (15, _), (16, _), (17, _), (19, _), (20, _), (104, _)]) (L' := [(0, _), (390, _), (700, _), (800, _), (801, _), (802, _), (804, _), (1001, _), (1301, _)]) ?_ ⟨rfl, ⟨rfl, ⟨rfl, ⟨rfl, ⟨rfl, ⟨rfl, ⟨rfl, ⟨rfl, ⟨rfl, trivial⟩⟩⟩⟩⟩⟩⟩⟩⟩ ⟨rfl, ⟨rfl, ⟨rfl, ⟨rfl, ⟨rfl, ⟨rfl, ⟨rfl, ⟨rfl, ⟨rfl, trivial⟩⟩⟩⟩⟩⟩⟩⟩⟩
                    refine W_regL (WL_pure rfl rfl (by decide) (Pu_move rfl rfl) (WL_pure rfl rfl (by decide) (Pu_bin rfl rfl rfl (run_add _ _ _ _ _ (by omega))) (WL_pure rfl rfl (by decide) (Pu_assign rfl rfl) (WL_nil ?_))))
                    refine X_turn (P' := rowB 5 v114 (y.2 ++ [byte ((i : Int) + (y.2.length : Int))])) 390 rfl (fun h hp => rowB_app hp) ?_
                    exact X_round (setSl v114 ho114 y.1, y.2 ++ [byte ((i : Int) + (y.2.length : Int))]) ⟨hy1, by rw [List.length_append]; simp; omega⟩ (by show 80 - (y.2 ++ [_]).length < 80 - y.2.length; rw [List.length_append]; simp; omega) ⟨rfl, rfl, rfl, rfl, rfl, rfl, rfl, lookV_eq rfl (int_eq (by rw [List.length_append]; simp)), trivial⟩ ⟨rfl, rfl, rfl, rfl, rfl, rfl, rfl, rfl, trivial⟩
                  ·
                    refine W_exit (X_then_exit (X_then_exit (X_block_exit (X_then ?_))))
                    refine W_seq ?_
                    refine W.pre (K' := [(2, _), (11, _), (13, _), (15, _), (16, _), (17, _), (19, _), (20, _), (104, _)]) (L' := [(0, _), (390, _), (700, _), (800, _), (801, _), (802, _), (804, _), (1001, _)]) ?_ ⟨rfl, ⟨rfl, ⟨rfl, ⟨rfl, ⟨rfl, ⟨rfl, ⟨rfl, ⟨rfl, ⟨rfl, trivial⟩⟩⟩⟩⟩⟩⟩⟩⟩ ⟨rfl, ⟨rfl, ⟨rfl, ⟨rfl, ⟨rfl, ⟨rfl, ⟨rfl, ⟨rfl, trivial⟩⟩⟩⟩⟩⟩⟩⟩
                    refine W_regL (WL_pure rfl rfl (by decide) (Pu_loadBN (r := 1001) rfl Try.isAgg40 Try.sizeOf40 rfl rfl (bvC_length y.1) (load_all (bvC_length y.1))) (WL_cons rfl rfl (by decide) (OpT_alloc (r := 1301) rfl (zero_run (by kernel_rfl : (Try.prog.info? 40).bind (·.zero) = some (.agg (bkC zeroId (.slice none 0 0) 0 0).toArray))) rfl (fun g1301 => (WL_cons0 rfl rfl (OpT_storeAll (r := 1301) rfl Try.sizeOf40 rfl rfl rfl (bkC_length rfl) (bvC_length _) (bvC_one _) ?_))))))
                    refine (WL_nil (X_then ?_))
                    refine W_seq ?_
                    refine W.pre (K' := [(2, _), (11, _), (13, _), (15, _), (16, _), (17, _), (19, _), (20, _), (21, _), (104, _)]) (L' := [(0, _), (390, _), (700, _), (800, _), (801, _), (802, _), (804, _), (1001, _), (1301, _)]) ?_ ⟨rfl, ⟨rfl, ⟨rfl, ⟨rfl, ⟨rfl, ⟨rfl, ⟨rfl, ⟨rfl, ⟨rfl, ⟨rfl, trivial⟩⟩⟩⟩⟩⟩⟩⟩⟩⟩ ⟨rfl, ⟨rfl, ⟨rfl, ⟨rfl, ⟨rfl, ⟨rfl, ⟨rfl, ⟨rfl, ⟨rfl, trivial⟩⟩⟩⟩⟩⟩⟩⟩⟩
                    refine W_regL (WL_cons rfl rfl (by decide) (OpT_buildOnes (r := 1302) (bs []) rfl rfl Try.runUnderlying38 Try.sizeOf5 Try.zeroValue5 rfl rfl (by decide) rfl (bs_cells _) (fun v117 => (WL_pure rfl rfl (by decide) (Pu_fieldAddrB (off := 32) rfl rfl (by kernel_rfl)) (WL_pure rfl rfl (by decide) (Pu_loadB (r := 1001) rfl Try.isAgg38 rfl rfl (bk_data y.1.len)) (WL_cons rfl rfl (by decide) (OpT_append (r := 1302) (r2 := 390) rfl Try.underlying38 TI.hi5 TI.hz5 TI.hs5 TI.hby5 TI.hzs5 (by decide) rfl rfl rfl rfl (fun _ h => rowP_rd h) (bs_one _) (by simp; unfold maxLen; omega) (by simp; omega) (fun v120 => ?_))))))))
                    refine WL_fact (r := 1302) rfl (fun h hp => rd_one (rowP_rd hp)) (fun ho120 => ?_)
                    refine (WL_pure rfl rfl (by decide) (Pu_fieldAddrB (off := 32) rfl rfl (by kernel_rfl)) (WL_cons0 rfl rfl (OpT_storeB1 (r := 1301) rfl Try.sizeOf38 rfl rfl rfl ho120 (by rw [bvC_length]; decide) (bk_set_data y.1.len _) ?_)))
                    refine (WL_nil (X_then ?_))
                    refine W_seq ?_
                    refine W_seq ?_
                    refine W.pre (K' := [(2, _), (11, _), (13, _), (15, _), (16, _), (17, _), (19, _), (20, _), (21, _), (104, _)]) (L' := [(0, _), (390, _), (700, _), (800, _), (801, _), (802, _), (804, _), (1001, _), (1301, _), (1302, _)]) ?_ ⟨rfl, ⟨rfl, ⟨rfl, ⟨rfl, ⟨rfl, ⟨rfl, ⟨rfl, ⟨rfl, ⟨rfl, ⟨rfl, trivial⟩⟩⟩⟩⟩⟩⟩⟩⟩⟩ ⟨rfl, ⟨rfl, ⟨rfl, ⟨rfl, ⟨rfl, ⟨rfl, ⟨rfl, ⟨rfl, ⟨rfl, ⟨rfl, trivial⟩⟩⟩⟩⟩⟩⟩⟩⟩⟩
                    have hpl := putA_len room quota (zs.map toBk) (toBk (y.1, y.2)) now
                    have htb : toBk ((setSl v120 ho120 y.1), y.2) = toBk (y.1, y.2) := rfl
                    refine W_draw (N := 9) (by kernel_rfl) rfl [(0, _), (804, _), (1001, _), (1301, _)] ⟨rfl, ⟨rfl, ⟨rfl, ⟨rfl, trivial⟩⟩⟩⟩ ?_
                    refine (AH_take 0 rfl (by kernel_rfl) (by kernel_rfl) (by kernel_rfl) rfl rfl (by decide) (Pu_move rfl rfl) (AH_take 1 rfl (by kernel_rfl) (by kernel_rfl) (by kernel_rfl) rfl rfl (by decide) (Pu_loadBN (r := 1301) rfl Try.isAgg40 Try.sizeOf40 rfl rfl (bvC_length (setSl v120 ho120 y.1)) (load_all (bvC_length (setSl v120 ho120 y.1)))) (AH_take 2 rfl (by kernel_rfl) (by kernel_rfl) (by kernel_rfl) rfl rfl (by decide) (Pu_move rfl rfl) (AH_take 4 rfl (by kernel_rfl) (by kernel_rfl) (by kernel_rfl) rfl rfl (by decide) (Pu_move rfl rfl) (AH_take 5 rfl (by kernel_rfl) (by kernel_rfl) (by kernel_rfl) rfl rfl (by decide) (Pu_loadBN (r := 1001) rfl Try.isAgg40 Try.sizeOf40 rfl rfl (bvC_length y.1) (load_all (bvC_length y.1))) (AH_take 6 rfl (by kernel_rfl) (by kernel_rfl) (by kernel_rfl) rfl rfl (by decide) (Pu_move rfl rfl) (AH_ready [3] (by kernel_rfl) (by decide) ?_)))))))
                    refine AHs_cons rfl rfl rfl (by decide) (OpT_call 1400 [0, 390, 800, 801, 802, 804, 1001, 1301, 1302] [700] rfl Try.call13 rfl rfl rfl (by decide) (by decide) (put_spec ga room quota now (zs.map toBk) (by omega) (setSl v120 ho120 y.1) y.2 _ (rd_star 8 rfl (fun h hp => rdP_cast (rowP_rd hp) rfl (Nat.zero_add _)))) (fun v125 Ps125 hR125 => ?_)) ?_
                    ·
                      obtain ⟨rfl, rfl⟩ := hR125
                      refine ⟨⟨rfl, ⟨rfl, ⟨rfl, ⟨rfl, trivial⟩⟩⟩⟩, ?_⟩
                      rw [htb]
                      refine (AH_ready [7] (by kernel_rfl) (by decide) ?_)
                      refine AHs_cons rfl rfl rfl (by decide) (OpT_call 1500 [0, 390, 804, 1001, 1301, 1302, 1400] [800, 801, 802] rfl Try.call20 rfl rfl rfl (by decide) (by decide) (refPut_spec gx room quota v zs now y.1 y.2 hv hsort (by omega) (by omega) (by omega) _ (rd_star 1 rfl (fun h hp => rowP_rd hp))) (fun v129 Ps129 hR129 => ?_)) ?_
                      ·
                        obtain ⟨v2, ys, rfl, hv2, hys, rfl⟩ := hR129
                        refine ⟨⟨rfl, ⟨rfl, ⟨rfl, ⟨rfl, trivial⟩⟩⟩⟩, ?_⟩
                        skip
                        refine (AH_take 8 rfl (by kernel_rfl) (by kernel_rfl) (by kernel_rfl) rfl rfl (by decide) (Pu_bin rfl rfl rfl (run_neq _ _ _ _ _ _)) (AH_done (by kernel_rfl) (X_then ?_)))
                        refine W_false rfl ((by simp)) ?_
                        refine W_skip (X_then ?_)
                        refine W_seq ?_
                        refine W.pre (K' := [(2, _), (11, _), (13, _), (15, _), (16, _), (17, _), (19, _), (20, _), (21, _), (104, _), (130, _)]) (L' := [(0, _), (390, _), (804, _), (1001, _), (1301, _), (1302, _), (1400, _), (1500, _), (1501, _), (1502, _)]) ?_ ⟨rfl, ⟨rfl, ⟨rfl, ⟨rfl, ⟨rfl, ⟨rfl, ⟨rfl, ⟨rfl, ⟨rfl, ⟨rfl, ⟨rfl, trivial⟩⟩⟩⟩⟩⟩⟩⟩⟩⟩⟩ ⟨rfl, ⟨rfl, ⟨rfl, ⟨rfl, ⟨rfl, ⟨rfl, ⟨rfl, ⟨rfl, ⟨rfl, ⟨rfl, trivial⟩⟩⟩⟩⟩⟩⟩⟩⟩⟩
                        refine W_regL (WL_pure rfl rfl (by decide) (Pu_assign rfl rfl) (WL_nil (X_then ?_)))
                        refine W_block ?_
                        refine W_turn (P' := rowB 5 v120 y.2) 1302 rfl (fun h hp => (congrFun (rowB_zero _ _) h).mp hp) ?_
                        refine W_loop (α := Nat × List UInt8) (fun u => [(2, vc), (11, .pointer (some ⟨ga, 0, none⟩)), (13, .pointer (some ⟨gx, 0, none⟩)), (15, .int .i64 now), (16, .int .i64 (i : Int)), (17, .pointer (some ⟨g804, 0, none⟩)), (21, .pointer (some ⟨g1301, 0, none⟩)), (22, .int .i64 (u.1 : Int))]) (fun u => [(0, orig Wo), (1400, areaP ga room quota (putA room quota (zs.map toBk) (toBk (y.1, y.2)) now).2), (1500, refB gx room quota v2), (1501, rowB2 v2 (sls ys)), (1502, datP ys), (804, blk g804 30 (callF c)), (1301, blk g1301 40 (bvC (setSl v120 ho120 y.1))), (1302, rowB 5 v120 u.2)]) (fun u => u.1 ≤ y.2.length ∧ u.2.length = y.2.length) (fun u => y.2.length - u.1) ((0, y.2)) ⟨Nat.zero_le _, rfl⟩ ⟨rfl, ⟨rfl, ⟨rfl, ⟨rfl, ⟨rfl, ⟨rfl, ⟨rfl, ⟨rfl, trivial⟩⟩⟩⟩⟩⟩⟩⟩ ⟨rfl, ⟨rfl, ⟨rfl, ⟨rfl, ⟨rfl, ⟨rfl, ⟨rfl, ⟨rfl, trivial⟩⟩⟩⟩⟩⟩⟩⟩ (fun u hu => ?_)
                        obtain ⟨hu1, hu2⟩ := hu
                        refine W_seq ?_
                        refine W_seq ?_
                        refine W.pre (K' := [(2, _), (11, _), (13, _), (15, _), (16, _), (17, _), (21, _), (22, _)]) (L' := [(0, _), (804, _), (1301, _), (1302, _), (1400, _), (1500, _), (1501, _), (1502, _)]) ?_ ⟨rfl, ⟨rfl, ⟨rfl, ⟨rfl, ⟨rfl, ⟨rfl, ⟨rfl, ⟨rfl, trivial⟩⟩⟩⟩⟩⟩⟩⟩ ⟨rfl, ⟨rfl, ⟨rfl, ⟨rfl, ⟨rfl, ⟨rfl, ⟨rfl, ⟨rfl, trivial⟩⟩⟩⟩⟩⟩⟩⟩
                        refine W_regL (WL_pure rfl rfl (by decide) (Pu_move rfl rfl) (WL_pure rfl rfl (by decide) (Pu_fieldAddrB (off := 32) rfl rfl (by kernel_rfl)) (WL_pure rfl rfl (by decide) (Pu_loadB (r := 1301) rfl Try.isAgg38 rfl rfl (bk_data (setSl v120 ho120 y.1).len)) (WL_pure rfl rfl (by decide) (Pu_len (r := 1302) rfl Try.runUnderlying38 rfl rfl (fun _ h => rowP_rd h)) (WL_pure rfl rfl (by decide) (Pu_bin rfl rfl rfl (run_lss _ _ _ _ _ _)) (WL_nil (X_then ?_)))))))
                        refine W_cond rfl (fun hc135 => ?_) (fun hc135 => ?_)
                        ·
                          have hul : u.1 < u.2.length := by have := of_decide_eq_true hc135; omega
                          refine W_skip (X_then ?_)
                          refine W_seq ?_
                          refine W_block ?_
                          refine W.pre (K' := [(2, _), (11, _), (13, _), (15, _), (16, _), (17, _), (21, _), (22, _), (135, _)]) (L' := [(0, _), (804, _), (1301, _), (1302, _), (1400, _), (1500, _), (1501, _), (1502, _)]) ?_ ⟨rfl, ⟨rfl, ⟨rfl, ⟨rfl, ⟨rfl, ⟨rfl, ⟨rfl, ⟨rfl, ⟨rfl, trivial⟩⟩⟩⟩⟩⟩⟩⟩⟩ ⟨rfl, ⟨rfl, ⟨rfl, ⟨rfl, ⟨rfl, ⟨rfl, ⟨rfl, ⟨rfl, trivial⟩⟩⟩⟩⟩⟩⟩⟩
                          refine W_regL (WL_pure rfl rfl (by decide) (Pu_fieldAddrB (off := 32) rfl rfl (by kernel_rfl)) (WL_pure rfl rfl (by decide) (Pu_loadB (r := 1301) rfl Try.isAgg38 rfl rfl (bk_data (setSl v120 ho120 y.1).len)) (WL_pure rfl rfl (by decide) (Pu_move rfl rfl) (WL_pure rfl rfl (by decide) (Pu_idxS1 (r := 1302) rfl Try.runUnderlying38 Try.sizeOf5 rfl rfl rfl (fun _ h => rowP_rd h) (by omega)) (WL_cons0 rfl rfl (OpT_storeS1 (r := 1302) rfl Try.sizeOf5 rfl rfl rfl rfl (by rw [bs_length]; omega) (bs_set u.2 u.1 238) ?_))))))
                          refine (WL_nil (X_block (X_then ?_)))
                          refine W.pre (K' := [(2, _), (11, _), (13, _), (15, _), (16, _), (17, _), (21, _), (22, _), (135, _)]) (L' := [(0, _), (804, _), (1301, _), (1302, _), (1400, _), (1500, _), (1501, _), (1502, _)]) ?_ ⟨rfl, ⟨rfl, ⟨rfl, ⟨rfl, ⟨rfl, ⟨rfl, ⟨rfl, ⟨rfl, ⟨rfl, trivial⟩⟩⟩⟩⟩⟩⟩⟩⟩ ⟨rfl, ⟨rfl, ⟨rfl, ⟨rfl, ⟨rfl, ⟨rfl, ⟨rfl, ⟨rfl, trivial⟩⟩⟩⟩⟩⟩⟩⟩
                          refine W_regL (WL_pure rfl rfl (by decide) (Pu_move rfl rfl) (WL_pure rfl rfl (by decide) (Pu_bin rfl rfl rfl (run_add _ _ _ _ _ (by omega))) (WL_pure rfl rfl (by decide) (Pu_assign rfl rfl) (WL_nil ?_))))
                          refine X_turn (P' := rowB 5 v120 (u.2.set u.1 238)) 1302 rfl (fun h hp => (congrFun (rowB_set _ _ _ _) h).mp hp) ?_
                          exact X_round (u.1 + 1, u.2.set u.1 238) ⟨by dsimp only; omega, by rw [List.length_set]; exact hu2⟩ (by show y.2.length - (u.1 + 1) < y.2.length - u.1; omega) ⟨rfl, rfl, rfl, rfl, rfl, rfl, rfl, rfl, trivial⟩ ⟨rfl, rfl, rfl, rfl, rfl, rfl, rfl, rfl, trivial⟩
                        ·
                          have hdone := hc135
                          refine W_exit (X_then_exit (X_then_exit (X_block_exit (X_block ?_))))
                          refine X_ren 1400 700 rfl ?_
                          refine X_ren 1500 800 rfl ?_
                          refine X_ren 1501 801 rfl ?_
                          refine X_ren 1502 802 rfl ?_
                          exact X_cut (now, v2, ys) ⟨hv2, by have := congrArg List.length hys; rw [List.length_map] at this; dsimp only; omega, hn0, by dsimp only; omega⟩ ⟨rfl, rfl, rfl, rfl, rfl, rfl, trivial⟩ ⟨rfl, (look_eq rfl (by rw [hys])), rfl, rfl, rfl, rfl, trivial⟩
                      exact AHs_nil
                    exact AHs_nil
                exact AHs_nil
              exact AHs_nil
            exact AHs_nil
          exact AHs_nil
        ·
          have hk2 : ¬ kd ≤ 2 := by rw [hbb] at hc82; exact of_decide_eq_false hc82
          refine W_seq ?_
          refine W.pre (K' := [(2, _), (11, _), (13, _), (15, _), (16, _), (17, _), (18, _), (81, _), (82, _)]) (L' := [(0, _), (700, _), (800, _), (801, _), (802, _), (804, _), (901, _)]) ?_ ⟨rfl, ⟨rfl, ⟨rfl, ⟨rfl, ⟨rfl, ⟨rfl, ⟨rfl, ⟨rfl, ⟨rfl, trivial⟩⟩⟩⟩⟩⟩⟩⟩⟩ ⟨rfl, ⟨rfl, ⟨rfl, ⟨rfl, ⟨rfl, ⟨rfl, ⟨rfl, trivial⟩⟩⟩⟩⟩⟩⟩
          refine W_regL (WL_pure rfl rfl (by decide) (Pu_bin rfl rfl rfl (run_eql _ _ _ _ _ _)) (WL_pure rfl rfl (by decide) (Pu_assign rfl rfl) (WL_nil (X_then ?_))))
          refine W_cond rfl (fun hc142 => ?_) (fun hc142 => ?_)
          ·
            refine W_seq ?_
            refine W.pre (K' := [(2, _), (11, _), (13, _), (15, _), (16, _), (17, _), (18, _), (81, _), (82, _), (142, _)]) (L' := [(0, _), (700, _), (800, _), (801, _), (802, _), (804, _), (901, _)]) ?_ ⟨rfl, ⟨rfl, ⟨rfl, ⟨rfl, ⟨rfl, ⟨rfl, ⟨rfl, ⟨rfl, ⟨rfl, ⟨rfl, trivial⟩⟩⟩⟩⟩⟩⟩⟩⟩⟩ ⟨rfl, ⟨rfl, ⟨rfl, ⟨rfl, ⟨rfl, ⟨rfl, ⟨rfl, trivial⟩⟩⟩⟩⟩⟩⟩
            refine W_regL (WL_pure rfl rfl (by decide) (Pu_move rfl rfl) (WL_pure rfl rfl (by decide) (Pu_loadBN (r := 901) rfl Try.isAgg36 Try.sizeOf36 rfl rfl ((bs_length _).trans (keyA_length c.key)) (load_all ((bs_length _).trans (keyA_length c.key)))) (WL_pure rfl rfl (by decide) (Pu_move rfl rfl) (WL_cons rfl rfl (by decide) (OpT_call 1100 [0, 800, 801, 802, 804, 901] [700] rfl Try.call21 rfl rfl rfl (by decide) (by decide) (get_spec ga room quota now (zs.map toBk) (keyA c.key) (keyA_length c.key) _) (fun v148 Ps148 hR148 => ?_))))))
            obtain ⟨v149, rfl, rfl⟩ := hR148
            refine (WL_pure rfl rfl (by decide) (Pu_move rfl rfl) (WL_pure rfl rfl (by decide) (Pu_extract rfl rfl rfl) (WL_pure rfl rfl (by decide) (Pu_extract rfl rfl rfl) (WL_pure rfl rfl (by decide) (Pu_assign rfl rfl) (WL_pure rfl rfl (by decide) (Pu_assign rfl rfl) (WL_nil (X_then ?_)))))))
            refine W_seq ?_
            refine W.pre (K' := [(2, _), (11, _), (13, _), (15, _), (16, _), (17, _), (18, _), (23, _), (24, _), (81, _), (82, _), (142, _)]) (L' := [(0, _), (800, _), (801, _), (802, _), (804, _), (901, _), (1100, _), (1101, _)]) ?_ ⟨rfl, ⟨rfl, ⟨rfl, ⟨rfl, ⟨rfl, ⟨rfl, ⟨rfl, ⟨rfl, ⟨rfl, ⟨rfl, ⟨rfl, ⟨rfl, trivial⟩⟩⟩⟩⟩⟩⟩⟩⟩⟩⟩⟩ ⟨rfl, ⟨rfl, ⟨rfl, ⟨rfl, ⟨rfl, ⟨rfl, ⟨rfl, ⟨rfl, trivial⟩⟩⟩⟩⟩⟩⟩⟩
            refine W_regL (WL_pure rfl rfl (by decide) (Pu_move rfl rfl) (WL_pure rfl rfl (by decide) (Pu_loadBN (r := 901) rfl Try.isAgg36 Try.sizeOf36 rfl rfl ((bs_length _).trans (keyA_length c.key)) (load_all ((bs_length _).trans (keyA_length c.key)))) (WL_pure rfl rfl (by decide) (Pu_move rfl rfl) (WL_cons rfl rfl (by decide) (OpT_call 1200 [0, 804, 901, 1100, 1101] [800, 801, 802] rfl Try.call22 rfl rfl rfl (by decide) (by decide) (refGet_spec gx room quota v zs now (keyA c.key) (keyA_length c.key) hsort (by omega) _) (fun v155 Ps155 hR155 => ?_))))))
            obtain ⟨v156, rfl, hrd, rfl⟩ := hR155
            skip
            refine (WL_pure rfl rfl (by decide) (Pu_move rfl rfl) (WL_pure rfl rfl (by decide) (Pu_extract rfl rfl rfl) (WL_pure rfl rfl (by decide) (Pu_extract rfl rfl rfl) (WL_pure rfl rfl (by decide) (Pu_assign rfl rfl) (WL_pure rfl rfl (by decide) (Pu_assign rfl rfl) (WL_nil (X_then ?_)))))))
            refine W_seq ?_
            refine W.pre (K' := [(2, _), (11, _), (13, _), (15, _), (16, _), (17, _), (18, _), (23, _), (24, _), (25, _), (26, _), (81, _), (82, _), (142, _)]) (L' := [(0, _), (804, _), (901, _), (1100, _), (1101, _), (1200, _), (1201, _), (1202, _)]) ?_ ⟨rfl, ⟨rfl, ⟨rfl, ⟨rfl, ⟨rfl, ⟨rfl, ⟨rfl, ⟨rfl, ⟨rfl, ⟨rfl, ⟨rfl, ⟨rfl, ⟨rfl, ⟨rfl, trivial⟩⟩⟩⟩⟩⟩⟩⟩⟩⟩⟩⟩⟩⟩ ⟨rfl, ⟨rfl, ⟨rfl, ⟨rfl, ⟨rfl, ⟨rfl, ⟨rfl, ⟨rfl, trivial⟩⟩⟩⟩⟩⟩⟩⟩
            refine W_regL (WL_pure rfl rfl (by decide) (Pu_move rfl rfl) (WL_pure rfl rfl (by decide) (Pu_convBS (r := 1101) rfl Try.underlying38 Try.underlying5 Try.underlying9 rfl rfl (fun _ hp => rowP_rd hp)) (WL_pure rfl rfl (by decide) (Pu_move rfl rfl) (WL_pure rfl rfl (by decide) (Pu_convBS (r := 1202) rfl Try.underlying38 Try.underlying5 Try.underlying9 rfl rfl hrd) (WL_pure rfl rfl (by decide) (Pu_bin rfl rfl rfl (run_strNe _ _ _ _ _)) (WL_pure rfl rfl (by decide) (Pu_move rfl rfl) (WL_gPT rfl rfl rfl (by simp) rfl (by decide) (Pu_move rfl rfl) (WL_gPT rfl rfl rfl (by simp) rfl (by decide) (Pu_move rfl rfl) (WL_gPT rfl rfl rfl (by simp) rfl (by decide) (Pu_bin rfl rfl rfl (run_neb _ _ _ Try.underlying4 _ _)) (WL_pure rfl rfl (by decide) (Pu_pickF rfl rfl (by simp) rfl) (WL_nil (X_then ?_))))))))))))
            refine W_false rfl ((by simp)) ?_
            refine W_skip (X_block ?_)
            refine X_ren 1100 700 rfl ?_
            refine X_ren 1200 800 rfl ?_
            refine X_ren 1201 801 rfl ?_
            refine X_ren 1202 802 rfl ?_
            exact X_cut (now, v, zs) ⟨hv, by dsimp only; omega, hn0, by dsimp only; omega⟩ ⟨rfl, rfl, rfl, rfl, rfl, rfl, trivial⟩ ⟨rfl, rfl, rfl, rfl, rfl, rfl, trivial⟩
          ·
            have hn3 := of_decide_eq_false hc142
            refine W_seq ?_
            refine W.pre (K' := [(2, _), (11, _), (13, _), (15, _), (16, _), (17, _), (18, _), (81, _), (82, _), (142, _)]) (L' := [(0, _), (700, _), (800, _), (801, _), (802, _), (804, _), (901, _)]) ?_ ⟨rfl, ⟨rfl, ⟨rfl, ⟨rfl, ⟨rfl, ⟨rfl, ⟨rfl, ⟨rfl, ⟨rfl, ⟨rfl, trivial⟩⟩⟩⟩⟩⟩⟩⟩⟩⟩ ⟨rfl, ⟨rfl, ⟨rfl, ⟨rfl, ⟨rfl, ⟨rfl, ⟨rfl, trivial⟩⟩⟩⟩⟩⟩⟩
            refine W_regL (WL_pure rfl rfl (by decide) (Pu_bin rfl rfl rfl (run_eql _ _ _ _ _ _)) (WL_pure rfl rfl (by decide) (Pu_assign rfl rfl) (WL_nil (X_then ?_))))
            refine W_cond rfl (fun hc168 => ?_) (fun hc168 => ?_)
            ·
              refine W_seq ?_
              refine W.pre (K' := [(2, _), (11, _), (13, _), (15, _), (16, _), (17, _), (18, _), (81, _), (82, _), (142, _), (168, _)]) (L' := [(0, _), (700, _), (800, _), (801, _), (802, _), (804, _), (901, _)]) ?_ ⟨rfl, ⟨rfl, ⟨rfl, ⟨rfl, ⟨rfl, ⟨rfl, ⟨rfl, ⟨rfl, ⟨rfl, ⟨rfl, ⟨rfl, trivial⟩⟩⟩⟩⟩⟩⟩⟩⟩⟩⟩ ⟨rfl, ⟨rfl, ⟨rfl, ⟨rfl, ⟨rfl, ⟨rfl, ⟨rfl, trivial⟩⟩⟩⟩⟩⟩⟩
              refine W_draw (N := 7) (by kernel_rfl) rfl [(0, _), (804, _), (901, _)] ⟨rfl, ⟨rfl, ⟨rfl, trivial⟩⟩⟩ ?_
              refine (AH_take 0 rfl (by kernel_rfl) (by kernel_rfl) (by kernel_rfl) rfl rfl (by decide) (Pu_move rfl rfl) (AH_take 1 rfl (by kernel_rfl) (by kernel_rfl) (by kernel_rfl) rfl rfl (by decide) (Pu_loadBN (r := 901) rfl Try.isAgg36 Try.sizeOf36 rfl rfl ((bs_length _).trans (keyA_length c.key)) (load_all ((bs_length _).trans (keyA_length c.key)))) (AH_take 3 rfl (by kernel_rfl) (by kernel_rfl) (by kernel_rfl) rfl rfl (by decide) (Pu_move rfl rfl) (AH_take 4 rfl (by kernel_rfl) (by kernel_rfl) (by kernel_rfl) rfl rfl (by decide) (Pu_loadBN (r := 901) rfl Try.isAgg36 Try.sizeOf36 rfl rfl ((bs_length _).trans (keyA_length c.key)) (load_all ((bs_length _).trans (keyA_length c.key)))) (AH_ready [2] (by kernel_rfl) (by decide) ?_)))))
              refine AHs_cons rfl rfl rfl (by decide) (OpT_call 1100 [0, 800, 801, 802, 804, 901] [700] rfl Try.call18 rfl rfl rfl (by decide) (by decide) (drop_spec ga room quota (zs.map toBk) (keyA c.key) (keyA_length c.key) _) (fun v172 Ps172 hR172 => ?_)) ?_
              ·
                obtain ⟨rfl, rfl⟩ := hR172
                refine ⟨⟨rfl, ⟨rfl, ⟨rfl, trivial⟩⟩⟩, ?_⟩
                refine (AH_ready [5] (by kernel_rfl) (by decide) ?_)
                refine AHs_cons rfl rfl rfl (by decide) (OpT_call 1200 [0, 804, 901, 1100] [800, 801, 802] rfl Try.call23 rfl rfl rfl (by decide) (by decide) (refDrop_spec gx room quota v zs (keyA c.key) (keyA_length c.key) (by omega) _) (fun v175 Ps175 hR175 => ?_)) ?_
                ·
                  obtain ⟨v2, hv2, rfl, rfl⟩ := hR175
                  refine ⟨⟨rfl, ⟨rfl, ⟨rfl, trivial⟩⟩⟩, ?_⟩
                  skip
                  refine (AH_take 6 rfl (by kernel_rfl) (by kernel_rfl) (by kernel_rfl) rfl rfl (by decide) (Pu_bin rfl rfl rfl (run_neb _ _ _ Try.underlying4 _ _)) (AH_done (by kernel_rfl) (X_then ?_)))
                  refine W_false rfl ((by rw [drop_eq]; simp)) ?_
                  refine W_skip (X_block ?_)
                  refine X_ren 1100 700 rfl ?_
                  refine X_ren 1200 800 rfl ?_
                  refine X_ren 1201 801 rfl ?_
                  refine X_ren 1202 802 rfl ?_
                  exact X_cut (now, v2, dropZ (keyA c.key) zs) ⟨hv2, by have := dropZ_le (keyA c.key) zs; dsimp only; omega, hn0, by dsimp only; omega⟩ ⟨rfl, rfl, rfl, rfl, rfl, rfl, trivial⟩ ⟨rfl, (look_eq rfl (by rw [dropZ_A])), rfl, rfl, rfl, rfl, trivial⟩
                exact AHs_nil
              exact AHs_nil
            ·
              have hn4 := of_decide_eq_false hc168
              refine W_seq ?_
              refine W.pre (K' := [(2, _), (11, _), (13, _), (15, _), (16, _), (17, _), (18, _), (81, _), (82, _), (142, _), (168, _)]) (L' := [(0, _), (700, _), (800, _), (801, _), (802, _), (804, _), (901, _)]) ?_ ⟨rfl, ⟨rfl, ⟨rfl, ⟨rfl, ⟨rfl, ⟨rfl, ⟨rfl, ⟨rfl, ⟨rfl, ⟨rfl, ⟨rfl, trivial⟩⟩⟩⟩⟩⟩⟩⟩⟩⟩⟩ ⟨rfl, ⟨rfl, ⟨rfl, ⟨rfl, ⟨rfl, ⟨rfl, ⟨rfl, trivial⟩⟩⟩⟩⟩⟩⟩
              refine W_regL (WL_pure rfl rfl (by decide) (Pu_bin rfl rfl rfl (run_eql _ _ _ _ _ _)) (WL_pure rfl rfl (by decide) (Pu_assign rfl rfl) (WL_nil (X_then ?_))))
              refine W_cond rfl (fun hc177 => ?_) (fun hc177 => ?_)
              ·
                refine W_seq ?_
                refine W.pre (K' := [(2, _), (11, _), (13, _), (15, _), (16, _), (17, _), (18, _), (81, _), (82, _), (142, _), (168, _), (177, _)]) (L' := [(0, _), (700, _), (800, _), (801, _), (802, _), (804, _), (901, _)]) ?_ ⟨rfl, ⟨rfl, ⟨rfl, ⟨rfl, ⟨rfl, ⟨rfl, ⟨rfl, ⟨rfl, ⟨rfl, ⟨rfl, ⟨rfl, ⟨rfl, trivial⟩⟩⟩⟩⟩⟩⟩⟩⟩⟩⟩⟩ ⟨rfl, ⟨rfl, ⟨rfl, ⟨rfl, ⟨rfl, ⟨rfl, ⟨rfl, trivial⟩⟩⟩⟩⟩⟩⟩
                refine W_regL (WL_pure rfl rfl (by decide) (Pu_move rfl rfl) (WL_pure rfl rfl (by decide) (Pu_move rfl rfl) (WL_cons rfl rfl (by decide) (OpT_call 1100 [0, 800, 801, 802, 804, 901] [700] rfl Try.call11 rfl rfl rfl (by decide) (by decide) (sweep_spec ga room quota now (zs.map toBk) (by omega) _) (fun v181 Ps181 hR181 => ?_)))))
                obtain ⟨rfl, rfl⟩ := hR181
                refine (WL_pure rfl rfl (by decide) (Pu_move rfl rfl) (WL_pure rfl rfl (by decide) (Pu_move rfl rfl) (WL_cons rfl rfl (by decide) (OpT_call 1200 [0, 804, 901, 1100] [800, 801, 802] rfl Try.call24 rfl rfl rfl (by decide) (by decide) (refSweep_spec gx room quota v zs now (by omega) _) (fun v184 Ps184 hR184 => ?_)))))
                obtain ⟨v2, hv2, rfl, rfl⟩ := hR184
                skip
                refine (WL_pure rfl rfl (by decide) (Pu_bin rfl rfl rfl (run_neq _ _ _ _ _ _)) (WL_nil (X_then ?_)))
                refine W_false rfl ((by rw [sweep_eq]; simp)) ?_
                refine W_skip (X_block ?_)
                refine X_ren 1100 700 rfl ?_
                refine X_ren 1200 800 rfl ?_
                refine X_ren 1201 801 rfl ?_
                refine X_ren 1202 802 rfl ?_
                exact X_cut (now, v2, liveE now zs) ⟨hv2, by have := liveE_le now zs; dsimp only; omega, hn0, by dsimp only; omega⟩ ⟨rfl, rfl, rfl, rfl, rfl, rfl, trivial⟩ ⟨rfl, (look_eq rfl (by rw [liveE_A])), rfl, rfl, rfl, rfl, trivial⟩
              ·
                have hn5b := of_decide_eq_false hc177
                refine W_seq ?_
                refine W.pre (K' := [(2, _), (11, _), (13, _), (15, _), (16, _), (17, _), (18, _), (81, _), (82, _), (142, _), (168, _), (177, _)]) (L' := [(0, _), (700, _), (800, _), (801, _), (802, _), (804, _), (901, _)]) ?_ ⟨rfl, ⟨rfl, ⟨rfl, ⟨rfl, ⟨rfl, ⟨rfl, ⟨rfl, ⟨rfl, ⟨rfl, ⟨rfl, ⟨rfl, ⟨rfl, trivial⟩⟩⟩⟩⟩⟩⟩⟩⟩⟩⟩⟩ ⟨rfl, ⟨rfl, ⟨rfl, ⟨rfl, ⟨rfl, ⟨rfl, ⟨rfl, trivial⟩⟩⟩⟩⟩⟩⟩
                refine W_regL (WL_pure rfl rfl (by decide) (Pu_bin rfl rfl rfl (run_eql _ _ _ _ _ _)) (WL_pure rfl rfl (by decide) (Pu_assign rfl rfl) (WL_nil (X_then ?_))))
                refine W_cond rfl (fun hc186 => ?_) (fun hc186 => ?_)
                ·
                  refine W.pre (K' := [(2, _), (11, _), (13, _), (15, _), (16, _), (17, _), (18, _), (81, _), (82, _), (142, _), (168, _), (177, _), (186, _)]) (L' := [(0, _), (700, _), (800, _), (801, _), (802, _), (804, _), (901, _)]) ?_ ⟨rfl, ⟨rfl, ⟨rfl, ⟨rfl, ⟨rfl, ⟨rfl, ⟨rfl, ⟨rfl, ⟨rfl, ⟨rfl, ⟨rfl, ⟨rfl, ⟨rfl, trivial⟩⟩⟩⟩⟩⟩⟩⟩⟩⟩⟩⟩⟩ ⟨rfl, ⟨rfl, ⟨rfl, ⟨rfl, ⟨rfl, ⟨rfl, ⟨rfl, trivial⟩⟩⟩⟩⟩⟩⟩
                  refine W_regL (WL_pure rfl rfl (by decide) (Pu_move rfl rfl) (WL_pure rfl rfl (by decide) (Pu_fieldAddrB (off := 4) rfl rfl (by kernel_rfl)) (WL_pure rfl rfl (by decide) (Pu_loadB (r := 804) rfl Try.isAgg3 rfl rfl rfl) (WL_cons rfl rfl (by decide) (OpT_call 1100 [0, 700, 800, 801, 802, 804, 901] [] rfl Try.call9 rfl rfl rfl (by decide) (by decide) (within_spec c.dur 6 (by omega) (by omega) _) (fun v191 Ps191 hR191 => ?_))))))
                  obtain ⟨rfl, rfl⟩ := hR191
                  refine (WL_pure rfl rfl (by decide) (Pu_bin rfl rfl rfl (run_add _ _ _ _ _ (by omega))) ?_)
                  skip
                  refine (WL_pure rfl rfl (by decide) (Pu_assign rfl rfl) (WL_nil (X_block ?_)))
                  exact X_cut (now + c.dur % 6, v, zs) ⟨hv, by dsimp only; omega, by dsimp only; omega, by dsimp only; omega⟩ ⟨rfl, rfl, rfl, rfl, rfl, rfl, trivial⟩ ⟨rfl, rfl, rfl, rfl, rfl, rfl, trivial⟩
                ·
                  skip
                  refine W_skip (X_block ?_)
                  exact X_cut (now, v, zs) ⟨hv, by dsimp only; omega, hn0, by dsimp only; omega⟩ ⟨rfl, rfl, rfl, rfl, rfl, rfl, trivial⟩ ⟨rfl, rfl, rfl, rfl, rfl, rfl, trivial⟩
    ·
      obtain ⟨hz1, hz2, hz3, hz4⟩ := hz
      refine W_fact (r := 700) rfl (fun h hp => area_ok hp) (fun hok1 => ?_)
      have hfz : (totE z.2.2 : Int) ≤ room := by rw [totE_eq]; exact hok1.2
      have hmz : (z.2.2.map toBk).length = z.2.2.length := List.length_map _
      refine W_seq ?_
      refine W.pre (K' := [(2, _), (11, _), (13, _), (15, _), (16, _), (17, _)]) (L' := [(0, _), (700, _), (800, _), (801, _), (802, _), (804, _)]) ?_ ⟨rfl, ⟨rfl, ⟨rfl, ⟨rfl, ⟨rfl, ⟨rfl, trivial⟩⟩⟩⟩⟩⟩ ⟨rfl, ⟨rfl, ⟨rfl, ⟨rfl, ⟨rfl, ⟨rfl, trivial⟩⟩⟩⟩⟩⟩
      refine W_draw (N := 28) (by kernel_rfl) rfl [(0, _), (804, _)] ⟨rfl, ⟨rfl, trivial⟩⟩ ?_
      refine (AH_take 0 rfl (by kernel_rfl) (by kernel_rfl) (by kernel_rfl) rfl rfl (by decide) (Pu_move rfl rfl) (AH_take 2 rfl (by kernel_rfl) (by kernel_rfl) (by kernel_rfl) rfl rfl (by decide) (Pu_move rfl rfl) (AH_take 3 rfl (by kernel_rfl) (by kernel_rfl) (by kernel_rfl) rfl rfl (by decide) (Pu_nilCheck rfl rfl) (AH_take 4 rfl (by kernel_rfl) (by kernel_rfl) (by kernel_rfl) rfl rfl (by decide) (Pu_fieldAddrB (off := 2) rfl rfl (by kernel_rfl)) (AH_ready [1, 5] (by kernel_rfl) (by decide) ?_)))))
      refine AHs_cons rfl rfl rfl (by decide) (OpT_call 1000 [0, 800, 801, 802, 804] [700] rfl Try.call12 rfl rfl rfl (by decide) (by decide) (all_spec ga (room) (quota) (z.2.2.map toBk) (by omega) _) (fun v194 Ps194 hR194 => ?_)) ?_
      ·
        obtain ⟨zs194, hzs194, rfl⟩ := hR194
        refine ⟨⟨rfl, ⟨rfl, trivial⟩⟩, ?_⟩
        have hzl194 : (zs194.map (fun p : EB => p.1)).length = zs194.length := List.length_map _
        refine (AH_ready [5] (by kernel_rfl) (by decide) ?_)
        refine AHs_cons rfl rfl rfl (by decide) (OpT_run (Pu_loadB (r := 800) rfl Try.isAgg32 rfl rfl rfl) ⟨⟨rfl, ⟨rfl, trivial⟩⟩, ?_⟩) ?_
        ·
          refine (AH_ready [6] (by kernel_rfl) (by decide) ?_)
          refine AHs_cons rfl rfl rfl (by decide) (OpT_call 1100 [0, 800, 801, 802, 804, 1000, 1001, 1002] [] rfl Try.call15 rfl rfl rfl (by decide) (by decide) (same_spec v194 z.2.1 zs194 z.2.2 hzs194 (by have := congrArg List.length hzs194; rw [List.length_map, List.length_map] at this; omega) _ (rd_star 6 rfl (fun _ hp => rowP_rd hp)) (fun h hs => star_dat 7 rfl hs) (rd_star 2 rfl (fun _ hp => rowP_rd hp)) (fun h hs => star_dat 3 rfl hs)) (fun v199 Ps199 hR199 => ?_)) ?_
          ·
            obtain ⟨rfl, rfl⟩ := hR199
            refine ⟨⟨rfl, ⟨rfl, trivial⟩⟩, ?_⟩
            refine (AH_take 7 rfl (by kernel_rfl) (by kernel_rfl) (by kernel_rfl) rfl rfl (by decide) (Pu_un rfl rfl (run_not _)) (AH_take 8 rfl (by kernel_rfl) (by kernel_rfl) (by kernel_rfl) rfl rfl (by decide) (Pu_move rfl rfl) (AH_takeT 9 rfl (by kernel_rfl) (by kernel_rfl) (by kernel_rfl) rfl rfl rfl rfl rfl (by decide) (Pu_move rfl rfl) (AH_takeT 11 rfl (by kernel_rfl) (by kernel_rfl) (by kernel_rfl) rfl rfl rfl rfl rfl (by decide) (Pu_move rfl rfl) (AH_ready [10] (by kernel_rfl) (by decide) ?_)))))
            refine AHs_gT rfl rfl rfl rfl rfl rfl (by decide) (OpT_call 1200 [0, 800, 801, 802, 804, 1001, 1002] [1000] rfl Try.call17 rfl rfl rfl (by decide) (by decide) (total_spec ga room quota (z.2.2.map toBk) _) (fun v203 Ps203 hR203 => ?_)) ?_
            ·
              obtain ⟨rfl, rfl⟩ := hR203
              refine ⟨⟨rfl, ⟨rfl, trivial⟩⟩, ?_⟩
              refine (AH_ready [12] (by kernel_rfl) (by decide) ?_)
              refine AHs_gT rfl rfl rfl rfl rfl rfl (by decide) (OpT_call 1300 [0, 804, 1001, 1002, 1200] [800, 801, 802] rfl Try.call25 rfl rfl rfl (by decide) (by decide) (refTotal_spec gx room quota z.2.1 z.2.2 (by omega) (by omega) _) (fun v205 Ps205 hR205 => ?_)) ?_
              ·
                obtain ⟨rfl, rfl⟩ := hR205
                refine ⟨⟨rfl, ⟨rfl, trivial⟩⟩, ?_⟩
                skip
                refine (AH_takeT 13 rfl (by kernel_rfl) (by kernel_rfl) (by kernel_rfl) rfl rfl rfl rfl rfl (by decide) (Pu_bin rfl rfl rfl (run_neq _ _ _ _ _ _)) (AH_take 14 rfl (by kernel_rfl) (by kernel_rfl) (by kernel_rfl) rfl rfl (by decide) (Pu_pickF rfl rfl rfl rfl) (AH_take 15 rfl (by kernel_rfl) (by kernel_rfl) (by kernel_rfl) rfl rfl (by decide) (Pu_move rfl rfl) (AH_takeT 16 rfl (by kernel_rfl) (by kernel_rfl) (by kernel_rfl) rfl rfl rfl (by rw [totE_eq]; simp) rfl (by decide) (Pu_move rfl rfl) (AH_takeT 17 rfl (by kernel_rfl) (by kernel_rfl) (by kernel_rfl) rfl rfl rfl (by rw [totE_eq]; simp) rfl (by decide) (Pu_fieldAddrB (off := 3) rfl rfl (by kernel_rfl)) (AH_takeT 18 rfl (by kernel_rfl) (by kernel_rfl) (by kernel_rfl) rfl rfl rfl (by rw [totE_eq]; simp) rfl (by decide) (Pu_loadB (r := 804) rfl Try.isAgg3 rfl rfl rfl) (AH_takeT 21 rfl (by kernel_rfl) (by kernel_rfl) (by kernel_rfl) rfl rfl rfl (by rw [totE_eq]; simp) rfl (by decide) (Pu_move rfl rfl) (AH_takeT 22 rfl (by kernel_rfl) (by kernel_rfl) (by kernel_rfl) rfl rfl rfl (by rw [totE_eq]; simp) rfl (by decide) (Pu_fieldAddrB (off := 3) rfl rfl (by kernel_rfl)) (AH_takeT 23 rfl (by kernel_rfl) (by kernel_rfl) (by kernel_rfl) rfl rfl rfl (by rw [totE_eq]; simp) rfl (by decide) (Pu_loadB (r := 804) rfl Try.isAgg3 rfl rfl rfl) (AH_ready [19] (by kernel_rfl) (by decide) ?_))))))))))
                refine AHs_gT rfl rfl rfl rfl (by rw [totE_eq]; simp) rfl (by decide) (OpT_call 1400 [0, 804, 1001, 1002, 1200, 1300, 1301, 1302] [] rfl Try.call9 rfl rfl rfl (by decide) (by decide) (within_spec c.src 4 (by omega) (by omega) _) (fun v212 Ps212 hR212 => ?_)) ?_
                ·
                  obtain ⟨rfl, rfl⟩ := hR212
                  refine ⟨⟨rfl, ⟨rfl, trivial⟩⟩, ?_⟩
                  refine (AH_ready [20] (by kernel_rfl) (by decide) ?_)
                  refine AHs_gT rfl rfl rfl rfl (by rw [totE_eq]; simp) rfl (by decide) (OpT_call 1500 [0, 804, 1001, 1002, 1300, 1301, 1302] [1200] rfl Try.call16 rfl rfl rfl (by decide) (by decide) (used_spec ga room quota (c.src % 4) (z.2.2.map toBk) _) (fun v213 Ps213 hR213 => ?_)) ?_
                  ·
                    obtain ⟨rfl, rfl⟩ := hR213
                    refine ⟨⟨rfl, ⟨rfl, trivial⟩⟩, ?_⟩
                    refine (AH_ready [24] (by kernel_rfl) (by decide) ?_)
                    refine AHs_gT rfl rfl rfl rfl (by rw [totE_eq]; simp) rfl (by decide) (OpT_call 1600 [0, 804, 1001, 1002, 1300, 1301, 1302, 1500] [] rfl Try.call9 rfl rfl rfl (by decide) (by decide) (within_spec c.src 4 (by omega) (by omega) _) (fun v217 Ps217 hR217 => ?_)) ?_
                    ·
                      obtain ⟨rfl, rfl⟩ := hR217
                      refine ⟨⟨rfl, ⟨rfl, trivial⟩⟩, ?_⟩
                      refine (AH_ready [25] (by kernel_rfl) (by decide) ?_)
                      refine AHs_gT rfl rfl rfl rfl (by rw [totE_eq]; simp) rfl (by decide) (OpT_call 1700 [0, 804, 1001, 1002, 1500] [1300, 1301, 1302] rfl Try.call26 rfl rfl rfl (by decide) (by decide) (refUsed_spec gx room quota z.2.1 z.2.2 (c.src % 4) (by omega) (by omega) _) (fun v218 Ps218 hR218 => ?_)) ?_
                      ·
                        obtain ⟨rfl, rfl⟩ := hR218
                        refine ⟨⟨rfl, ⟨rfl, trivial⟩⟩, ?_⟩
                        skip
                        refine (AH_takeT 26 rfl (by kernel_rfl) (by kernel_rfl) (by kernel_rfl) rfl rfl rfl (by rw [totE_eq]; simp) rfl (by decide) (Pu_bin rfl rfl rfl (run_neq _ _ _ _ _ _)) (AH_take 27 rfl (by kernel_rfl) (by kernel_rfl) (by kernel_rfl) rfl rfl (by decide) (Pu_pickF rfl rfl (by rw [totE_eq]; simp) rfl) (AH_done (by kernel_rfl) (X_then ?_))))
                        refine W_false rfl ((by rw [usedE_eq]; simp)) ?_
                        refine W_skip (X_block (X_then ?_))
                        refine W.pre (K' := [(2, _), (11, _), (13, _), (15, _), (16, _), (17, _), (220, _)]) (L' := [(0, _), (804, _), (1001, _), (1002, _), (1500, _), (1700, _), (1701, _), (1702, _)]) ?_ ⟨rfl, ⟨rfl, ⟨rfl, ⟨rfl, ⟨rfl, ⟨rfl, ⟨rfl, trivial⟩⟩⟩⟩⟩⟩⟩ ⟨rfl, ⟨rfl, ⟨rfl, ⟨rfl, ⟨rfl, ⟨rfl, ⟨rfl, ⟨rfl, trivial⟩⟩⟩⟩⟩⟩⟩⟩
                        refine W_regL (WL_pure rfl rfl (by decide) (Pu_move rfl rfl) (WL_pure rfl rfl (by decide) (Pu_bin rfl rfl rfl (run_add _ _ _ _ _ (by omega))) (WL_pure rfl rfl (by decide) (Pu_assign rfl rfl) (WL_nil ?_))))
                        refine X_ren 1500 700 rfl ?_
                        refine X_ren 1700 800 rfl ?_
                        refine X_ren 1701 801 rfl ?_
                        refine X_ren 1702 802 rfl ?_
                        exact X_round (i + 1, z.1, z.2.1, z.2.2) ⟨hz1, hz2, by dsimp only; omega, hz3, hz4⟩ (by show 80 - (i + 1) < 80 - i; omega) ⟨rfl, rfl, rfl, rfl, rfl, trivial⟩ ⟨rfl, rfl, rfl, rfl, rfl, trivial⟩
                      exact AHs_nil
                    exact AHs_nil
                  exact AHs_nil
                exact AHs_nil
              exact AHs_nil
            exact AHs_nil
          exact AHs_nil
        exact AHs_nil
      refine AHs_cons rfl rfl rfl (by decide) (OpT_run (Pu_loadB (r := 800) rfl Try.isAgg32 rfl rfl rfl) ⟨⟨rfl, ⟨rfl, trivial⟩⟩, ?_⟩) ?_
      ·
        refine (AH_ready [1] (by kernel_rfl) (by decide) ?_)
        refine AHs_cons rfl rfl rfl (by decide) (OpT_call 1000 [0, 800, 801, 802, 804] [700] rfl Try.call12 rfl rfl rfl (by decide) (by decide) (all_spec ga (room) (quota) (z.2.2.map toBk) (by omega) _) (fun v194 Ps194 hR194 => ?_)) ?_
        ·
          obtain ⟨zs194, hzs194, rfl⟩ := hR194
          refine ⟨⟨rfl, ⟨rfl, trivial⟩⟩, ?_⟩
          have hzl194 : (zs194.map (fun p : EB => p.1)).length = zs194.length := List.length_map _
          refine (AH_ready [6] (by kernel_rfl) (by decide) ?_)
          refine AHs_cons rfl rfl rfl (by decide) (OpT_call 1100 [0, 800, 801, 802, 804, 1000, 1001, 1002] [] rfl Try.call15 rfl rfl rfl (by decide) (by decide) (same_spec v194 z.2.1 zs194 z.2.2 hzs194 (by have := congrArg List.length hzs194; rw [List.length_map, List.length_map] at this; omega) _ (rd_star 6 rfl (fun _ hp => rowP_rd hp)) (fun h hs => star_dat 7 rfl hs) (rd_star 2 rfl (fun _ hp => rowP_rd hp)) (fun h hs => star_dat 3 rfl hs)) (fun v199 Ps199 hR199 => ?_)) ?_
          ·
            obtain ⟨rfl, rfl⟩ := hR199
            refine ⟨⟨rfl, ⟨rfl, trivial⟩⟩, ?_⟩
            refine (AH_take 7 rfl (by kernel_rfl) (by kernel_rfl) (by kernel_rfl) rfl rfl (by decide) (Pu_un rfl rfl (run_not _)) (AH_take 8 rfl (by kernel_rfl) (by kernel_rfl) (by kernel_rfl) rfl rfl (by decide) (Pu_move rfl rfl) (AH_takeT 9 rfl (by kernel_rfl) (by kernel_rfl) (by kernel_rfl) rfl rfl rfl rfl rfl (by decide) (Pu_move rfl rfl) (AH_takeT 11 rfl (by kernel_rfl) (by kernel_rfl) (by kernel_rfl) rfl rfl rfl rfl rfl (by decide) (Pu_move rfl rfl) (AH_ready [10] (by kernel_rfl) (by decide) ?_)))))
            refine AHs_gT rfl rfl rfl rfl rfl rfl (by decide) (OpT_call 1200 [0, 800, 801, 802, 804, 1001, 1002] [1000] rfl Try.call17 rfl rfl rfl (by decide) (by decide) (total_spec ga room quota (z.2.2.map toBk) _) (fun v203 Ps203 hR203 => ?_)) ?_
            ·
              obtain ⟨rfl, rfl⟩ := hR203
              refine ⟨⟨rfl, ⟨rfl, trivial⟩⟩, ?_⟩
              refine (AH_ready [12] (by kernel_rfl) (by decide) ?_)
              refine AHs_gT rfl rfl rfl rfl rfl rfl (by decide) (OpT_call 1300 [0, 804, 1001, 1002, 1200] [800, 801, 802] rfl Try.call25 rfl rfl rfl (by decide) (by decide) (refTotal_spec gx room quota z.2.1 z.2.2 (by omega) (by omega) _) (fun v205 Ps205 hR205 => ?_)) ?_
              ·
                obtain ⟨rfl, rfl⟩ := hR205
                refine ⟨⟨rfl, ⟨rfl, trivial⟩⟩, ?_⟩
                skip
                refine (AH_takeT 13 rfl (by kernel_rfl) (by kernel_rfl) (by kernel_rfl) rfl rfl rfl rfl rfl (by decide) (Pu_bin rfl rfl rfl (run_neq _ _ _ _ _ _)) (AH_take 14 rfl (by kernel_rfl) (by kernel_rfl) (by kernel_rfl) rfl rfl (by decide) (Pu_pickF rfl rfl rfl rfl) (AH_take 15 rfl (by kernel_rfl) (by kernel_rfl) (by kernel_rfl) rfl rfl (by decide) (Pu_move rfl rfl) (AH_takeT 16 rfl (by kernel_rfl) (by kernel_rfl) (by kernel_rfl) rfl rfl rfl (by rw [totE_eq]; simp) rfl (by decide) (Pu_move rfl rfl) (AH_takeT 17 rfl (by kernel_rfl) (by kernel_rfl) (by kernel_rfl) rfl rfl rfl (by rw [totE_eq]; simp) rfl (by decide) (Pu_fieldAddrB (off := 3) rfl rfl (by kernel_rfl)) (AH_takeT 18 rfl (by kernel_rfl) (by kernel_rfl) (by kernel_rfl) rfl rfl rfl (by rw [totE_eq]; simp) rfl (by decide) (Pu_loadB (r := 804) rfl Try.isAgg3 rfl rfl rfl) (AH_takeT 21 rfl (by kernel_rfl) (by kernel_rfl) (by kernel_rfl) rfl rfl rfl (by rw [totE_eq]; simp) rfl (by decide) (Pu_move rfl rfl) (AH_takeT 22 rfl (by kernel_rfl) (by kernel_rfl) (by kernel_rfl) rfl rfl rfl (by rw [totE_eq]; simp) rfl (by decide) (Pu_fieldAddrB (off := 3) rfl rfl (by kernel_rfl)) (AH_takeT 23 rfl (by kernel_rfl) (by kernel_rfl) (by kernel_rfl) rfl rfl rfl (by rw [totE_eq]; simp) rfl (by decide) (Pu_loadB (r := 804) rfl Try.isAgg3 rfl rfl rfl) (AH_ready [19] (by kernel_rfl) (by decide) ?_))))))))))
                refine AHs_gT rfl rfl rfl rfl (by rw [totE_eq]; simp) rfl (by decide) (OpT_call 1400 [0, 804, 1001, 1002, 1200, 1300, 1301, 1302] [] rfl Try.call9 rfl rfl rfl (by decide) (by decide) (within_spec c.src 4 (by omega) (by omega) _) (fun v212 Ps212 hR212 => ?_)) ?_
                ·
                  obtain ⟨rfl, rfl⟩ := hR212
                  refine ⟨⟨rfl, ⟨rfl, trivial⟩⟩, ?_⟩
                  refine (AH_ready [20] (by kernel_rfl) (by decide) ?_)
                  refine AHs_gT rfl rfl rfl rfl (by rw [totE_eq]; simp) rfl (by decide) (OpT_call 1500 [0, 804, 1001, 1002, 1300, 1301, 1302] [1200] rfl Try.call16 rfl rfl rfl (by decide) (by decide) (used_spec ga room quota (c.src % 4) (z.2.2.map toBk) _) (fun v213 Ps213 hR213 => ?_)) ?_
                  ·
                    obtain ⟨rfl, rfl⟩ := hR213
                    refine ⟨⟨rfl, ⟨rfl, trivial⟩⟩, ?_⟩
                    refine (AH_ready [24] (by kernel_rfl) (by decide) ?_)
                    refine AHs_gT rfl rfl rfl rfl (by rw [totE_eq]; simp) rfl (by decide) (OpT_call 1600 [0, 804, 1001, 1002, 1300, 1301, 1302, 1500] [] rfl Try.call9 rfl rfl rfl (by decide) (by decide) (within_spec c.src 4 (by omega) (by omega) _) (fun v217 Ps217 hR217 => ?_)) ?_
                    ·
                      obtain ⟨rfl, rfl⟩ := hR217
                      refine ⟨⟨rfl, ⟨rfl, trivial⟩⟩, ?_⟩
                      refine (AH_ready [25] (by kernel_rfl) (by decide) ?_)
                      refine AHs_gT rfl rfl rfl rfl (by rw [totE_eq]; simp) rfl (by decide) (OpT_call 1700 [0, 804, 1001, 1002, 1500] [1300, 1301, 1302] rfl Try.call26 rfl rfl rfl (by decide) (by decide) (refUsed_spec gx room quota z.2.1 z.2.2 (c.src % 4) (by omega) (by omega) _) (fun v218 Ps218 hR218 => ?_)) ?_
                      ·
                        obtain ⟨rfl, rfl⟩ := hR218
                        refine ⟨⟨rfl, ⟨rfl, trivial⟩⟩, ?_⟩
                        skip
                        refine (AH_takeT 26 rfl (by kernel_rfl) (by kernel_rfl) (by kernel_rfl) rfl rfl rfl (by rw [totE_eq]; simp) rfl (by decide) (Pu_bin rfl rfl rfl (run_neq _ _ _ _ _ _)) (AH_take 27 rfl (by kernel_rfl) (by kernel_rfl) (by kernel_rfl) rfl rfl (by decide) (Pu_pickF rfl rfl (by rw [totE_eq]; simp) rfl) (AH_done (by kernel_rfl) (X_then ?_))))
                        refine W_false rfl ((by rw [usedE_eq]; simp)) ?_
                        refine W_skip (X_block (X_then ?_))
                        refine W.pre (K' := [(2, _), (11, _), (13, _), (15, _), (16, _), (17, _), (220, _)]) (L' := [(0, _), (804, _), (1001, _), (1002, _), (1500, _), (1700, _), (1701, _), (1702, _)]) ?_ ⟨rfl, ⟨rfl, ⟨rfl, ⟨rfl, ⟨rfl, ⟨rfl, ⟨rfl, trivial⟩⟩⟩⟩⟩⟩⟩ ⟨rfl, ⟨rfl, ⟨rfl, ⟨rfl, ⟨rfl, ⟨rfl, ⟨rfl, ⟨rfl, trivial⟩⟩⟩⟩⟩⟩⟩⟩
                        refine W_regL (WL_pure rfl rfl (by decide) (Pu_move rfl rfl) (WL_pure rfl rfl (by decide) (Pu_bin rfl rfl rfl (run_add _ _ _ _ _ (by omega))) (WL_pure rfl rfl (by decide) (Pu_assign rfl rfl) (WL_nil ?_))))
                        refine X_ren 1500 700 rfl ?_
                        refine X_ren 1700 800 rfl ?_
                        refine X_ren 1701 801 rfl ?_
                        refine X_ren 1702 802 rfl ?_
                        exact X_round (i + 1, z.1, z.2.1, z.2.2) ⟨hz1, hz2, by dsimp only; omega, hz3, hz4⟩ (by show 80 - (i + 1) < 80 - i; omega) ⟨rfl, rfl, rfl, rfl, rfl, trivial⟩ ⟨rfl, rfl, rfl, rfl, rfl, trivial⟩
                      exact AHs_nil
                    exact AHs_nil
                  exact AHs_nil
                exact AHs_nil
              exact AHs_nil
            exact AHs_nil
          exact AHs_nil
        exact AHs_nil
      exact AHs_nil
  ·
    refine W_exit (X_then_exit (X_then_exit (X_block_exit (X_then ?_))))
    refine W_seq ?_
    refine W.pre (K' := [(2, _), (11, _), (13, _), (15, _), (16, _), (69, _)]) (L' := [(0, _), (700, _), (800, _), (801, _), (802, _)]) ?_ ⟨rfl, ⟨rfl, ⟨rfl, ⟨rfl, ⟨rfl, ⟨rfl, trivial⟩⟩⟩⟩⟩⟩ ⟨rfl, ⟨rfl, ⟨rfl, ⟨rfl, ⟨rfl, trivial⟩⟩⟩⟩⟩
    refine W_regL (WL_pure rfl rfl (by decide) (Pu_assign rfl rfl) (WL_nil (X_then ?_)))
    refine W_ret ?_
    exact X_ret [] (Ps := []) (res1 Try.results6 rfl) rfl (by decide) rfl

theorem areaPlays_any (W : World) (a0 : Int) (lo0 : -9223372036854775808 ≤ a0) (hi0 : a0 ≤ 9223372036854775807) (a1 : Int) (lo1 : -9223372036854775808 ≤ a1) (hi1 : a1 ≤ 9223372036854775807) (v2 : Value) (l2 : List CallA) (hr2 : Rd W 5 v2 l2.length (recC callF l2) ∧ ∀ c ∈ l2, CallOk c) (hl2 : l2.length ≤ maxLen) :
    Calls Try.prog 6 #[.int .i64 a0, .int .i64 a1, v2] W fun e W' => e = .returned (.bool true) ∧ Chg [] W W' := calls_law (areaPlays_law W a0 a1 v2 l2 hr2.1 hr2.2)
end Go.Proofs.Ytjopgnkffhfhkaa
