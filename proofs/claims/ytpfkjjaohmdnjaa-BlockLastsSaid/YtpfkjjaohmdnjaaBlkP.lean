/- What a step of the program does. -/
import Derived.Test.YtpfkjjaohmdnjaaProg
import Derived.Below
import Derived.Deep.Draws
import Derived.Deep.AppendLies
import Derived.Maps.AppendAt
import Derived.OwnWalk
import Derived.Laws.BytesArg
import Derived.Laws.MakeOwn
import Derived.Laws.OwnMore
import Derived.Deep.OwnRows
import Derived.Tactics
import Derived.Lib.ConvBytes
import Derived.Laws.Slices
import Derived.WalkKit
import Derived.KernelRfl
import Derived.RowKit3
import Derived.Deep.LoopGhost
import Derived.Deep.QuietTactic
import Derived.BigQuiet
import Derived.WideLaws
import Derived.Deep.DeepCutAuto
import Derived.Deep.CutBlock
import Derived.Deep.RegionHeld3
import Derived.Laws.Rows
import Derived.Lib.AppendStr
import Derived.ArgAppend
import Derived.Laws.IdiomCopy
import Derived.OrdersHeld
import Derived.Laws.BitsLemmas
import Derived.RowKit
import Derived.LoopN
import Derived.Handy
import Derived.Laws.EntriesVeiled
import Derived.MapKept
import Derived.Laws.Externs
import Derived.ChangeKeysEq
import Derived.Deep.WholeRow
import Derived.Test.YtpfkjjaohmdnjaaWWords
import Derived.Test.YtpfkjjaohmdnjaaWLast
import Derived.Test.YtpfkjjaohmdnjaaWTab
import Derived.Test.YtpfkjjaohmdnjaaWFour
import Derived.Test.YtpfkjjaohmdnjaaWQPut
import Derived.Test.YtpfkjjaohmdnjaaWApart
import Derived.Test.YtpfkjjaohmdnjaaWArr
import Derived.Test.YtpfkjjaohmdnjaaWZeros
import Derived.Test.YtpfkjjaohmdnjaaWFoot
import Derived.Test.YtpfkjjaohmdnjaaWKept
import Derived.Test.YtpfkjjaohmdnjaaWShare
import Derived.Test.YtpfkjjaohmdnjaaWN
import Derived.Test.YtpfkjjaohmdnjaaWFootNe
import Derived.Test.YtpfkjjaohmdnjaaWAt
import Derived.Test.YtpfkjjaohmdnjaaWEqStruct
import Derived.Test.YtpfkjjaohmdnjaaWRepsOne
import Derived.Test.YtpfkjjaohmdnjaaWInv
import Derived.Test.YtpfkjjaohmdnjaaWInvWords
import Derived.Test.YtpfkjjaohmdnjaaWGuard
import Derived.Test.YtpfkjjaohmdnjaaWNEv
import Derived.Test.YtpfkjjaohmdnjaaWMore
import Derived.Test.YtpfkjjaohmdnjaaBlkA
import Derived.Test.YtpfkjjaohmdnjaaBlkB
import Derived.Test.YtpfkjjaohmdnjaaBlkE
import Derived.Test.YtpfkjjaohmdnjaaBlkJ
import Derived.Test.YtpfkjjaohmdnjaaBlkO
namespace Go.Proofs.Ytpfkjjaohmdnjaa.Print
open Go.RowKit Go.Proofs.YtpfkjjaohmdnjaaW.PrintWords Go.Proofs.YtpfkjjaohmdnjaaW.PrintLast Go.Proofs.YtpfkjjaohmdnjaaW.PrintMore
attribute [local go_sem] max2_int min2_int max_two min_two max_three min_three max_four min_four
set_option linter.unusedVariables false
set_option linter.unusedSimpArgs false
section
variable {B : Nat} {w w' : World} {p gl gm : Nat} {v : Value} {L : List (Bk × Bool)} {W : List (Int × Bk)}
/-- What a step answers; what lasts, and what waits, behind it. -/
def doC (L : List (Bk × Bool)) (W : List (Int × Bk)) (k a : Int) : Int := if k = 1 then wrc L W a else 0
def doW (L : List (Bk × Bool)) (W : List (Int × Bk)) (k a : Int) (l2 : List Int) : List (Int × Bk) := if k = 1 then wrW L W a (ofB l2) else if k = 2 then [] else if k = 3 then [] else W
def doL (L : List (Bk × Bool)) (W : List (Int × Bk)) (k : Int) (l3 : List Int) : List (Bk × Bool) := if k = 2 then setl (fun _ => 1) 0 W L else if k = 3 then setl (fateOf l3) 0 W L else L
set_option maxHeartbeats 8000000 in
set_option maxRecDepth 100000 in
theorem b_do (h : SA B w p gl gm v L W) (hB : B ≤ w.heap.size) (k a : Int) {A2 A3 : Option Addr} {c2 c3 : Nat} {l2 l3 : List Int} (h2 : Kd.C (Kd.int .u8) w A2 l2.length l2) (h3 : Kd.C (Kd.int .u8) w A3 l3.length l3) (hA : 0 < l3.length → ∀ ad, A3 = some ad → ¬ foot p gl gm v ad.block) :
    Calls Try.prog 12 #[.pointer (some ⟨p, 0, none⟩), .agg #[.int .i64 k, .int .i64 a, .slice A2 l2.length c2, .slice A3 l3.length c3]] w fun e w' => e = .returned (.int .i64 (doC L W k a)) ∧ ∃ v', SA B w' p gl gm v' (doL L W k l3) (doW L W k a l2) ∧ Mv (foot p gl gm v) (foot p gl gm v') w w' := by
  obtain ⟨C, hC⟩ : ∃ C, C = doC L W k a := ⟨_, rfl⟩
  obtain ⟨Wn, hW⟩ : ∃ Wn, Wn = doW L W k a l2 := ⟨_, rfl⟩
  obtain ⟨Ln, hL⟩ : ∃ Ln, Ln = doL L W k l3 := ⟨_, rfl⟩
  rw [← hC, ← hW, ← hL]
  rw [doC] at hC; rw [doW] at hW; rw [doL] at hL
  replace hC := Aside0.mk hC
  replace hW := Aside0.mk hW
  replace hL := Aside0.mk hL
  have hb0 := below_alloc (Below.refl w.heap.size w) (.cells #[.int .i64 k, .int .i64 a, .slice A2 l2.length c2, .slice A3 l3.length c3] 34)
  have hk0 := blk_new w (.cells #[.int .i64 k, .int .i64 a, .slice A2 l2.length c2, .slice A3 l3.length c3] 34)
  have SS := Aside0.mk (h.below hb0)
  have CB := Aside0.mk (Kd.C_below h2 hb0)
  have CF := Aside0.mk (Kd.C_below h3 hb0)
  replace hA := Aside0.mk hA
  have MV := Aside0.mk (Mv.of_below (F := foot p gl gm v) hb0)
  have BK3 := Aside0.mk hk0
  have hBs := hB
  clear h h2 h3 hb0 hk0
  go_enter Try.func12, Try.ntmps12
  by_cases k1 : k = 1
  case pos =>
    subst k1
    obtain rfl : C = wrc L W a := by rw [hC.out, if_pos rfl]
    obtain rfl : Wn = wrW L W a (ofB l2) := by rw [hW.out, if_pos rfl]
    obtain rfl : Ln = L := by rw [hL.out, if_neg (by decide), if_neg (by decide)]
    clear hC hW hL
    go_wp2_with fail
    clear CF
    generalize w.alloc (.cells #[.int .i64 1, .int .i64 a, .slice A2 l2.length c2, .slice A3 l3.length c3] 34) = w1 at MV SS CB BK3 ⊢
    have n_MV := Aside0.mk (MV.out.trans (Mv.of_below (below_drew (Below.refl _ _))))
    have n_SS := Aside0.mk (SS.out.below (below_drew (Below.refl _ _)))
    have n_CB := Aside0.mk (Kd.C_below CB.out (below_drew (Below.refl _ _)))
    have n_BK3 := Aside0.mk (blk_below BK3.out (below_drew (Below.refl _ _)))
    clear MV
    have MV := n_MV
    clear n_MV
    clear SS
    have SS := n_SS
    clear n_SS
    clear CB
    have CB := n_CB
    clear n_CB
    clear BK3
    have BK3 := n_BK3
    clear n_BK3
    refine start_ (n := 8) (S := fun w' => w'.cell? ⟨w.heap.size, 1, none⟩ = some (.int .i64 a) ∧ w'.cell? ⟨w.heap.size, 2, none⟩ = some (.slice A2 l2.length c2)) (ds := []) #[false, false, false, false, false, false, false, false] (by kernel_rfl) rfl rfl ⟨(blk_cell BK3.out 1).trans rfl, (blk_cell BK3.out 2).trans rfl⟩ (fun hHeld => ?_)
    generalize w1.drew = w2 at MV SS CB BK3 hHeld ⊢
    refine pure_ (i := 0) (N := some 9) (v := ?_) (a' := ?_) #[true, false, false, false, false, false, false, false] rfl rfl (by kernel_rfl) (fun _ _ _ h => h) (Or.inl ⟨by rfl, ?_⟩) ?_ ?_
    rotate_left
    · intro w'
      go_simp
      with_reducible rfl
    rotate_left
    · simp only [Act.put, List.setIfInBounds_toArray, List.set_cons_zero, List.set_cons_succ, i64_w, i32_w]
      rfl
    refine pure_ (i := 1) (N := some 10) (v := ?_) (a' := ?_) #[true, true, false, false, false, false, false, false] rfl rfl (by kernel_rfl) (fun _ _ _ h => h) (Or.inl ⟨by rfl, ?_⟩) ?_ ?_
    rotate_left
    · intro w'
      go_simp
      with_reducible rfl
    rotate_left
    · simp only [Act.put, List.setIfInBounds_toArray, List.set_cons_zero, List.set_cons_succ, i64_w, i32_w]
      rfl
    refine pure_ (i := 3) (N := some 12) (v := ?_) (a' := ?_) #[true, true, false, true, false, false, false, false] rfl rfl (by kernel_rfl) (fun _ _ _ h => h) (Or.inl ⟨by rfl, ?_⟩) ?_ ?_
    rotate_left
    · intro w'
      go_simp
      with_reducible rfl
    rotate_left
    · simp only [Act.put, List.setIfInBounds_toArray, List.set_cons_zero, List.set_cons_succ, i64_w, i32_w]
      rfl
    refine take_ (i := 2) (N := some 11) (v := ?_) (a' := ?_) #[true, true, true, true, false, false, false, false] rfl rfl (by kernel_rfl) (fun _ _ _ h => h) (Or.inl ⟨by rfl, ?_⟩) hHeld ?_ ?_
    rotate_left
    · rintro w' ⟨s0, s1⟩
      go_simp
      with_reducible rfl
    rotate_left
    · simp only [Act.put, List.setIfInBounds_toArray, List.set_cons_zero, List.set_cons_succ, i64_w, i32_w]
      rfl
    refine take_ (i := 4) (N := some 13) (v := ?_) (a' := ?_) #[true, true, true, true, true, false, false, false] rfl rfl (by kernel_rfl) (fun _ _ _ h => h) (Or.inl ⟨by rfl, ?_⟩) hHeld ?_ ?_
    rotate_left
    · rintro w' ⟨s0, s1⟩
      go_simp
      with_reducible rfl
    rotate_left
    · simp only [Act.put, List.setIfInBounds_toArray, List.set_cons_zero, List.set_cons_succ, i64_w, i32_w]
      rfl
    refine one_ (i := 5) (N := some 14) #[true, true, true, true, true, true, false, false] rfl rfl (by kernel_rfl) (by decide) (fun K hK => ?_)
    refine goes_ Try.func14 (by kernel_rfl) rfl #[.slice A2 l2.length c2] (by rfl) rfl rfl (by (try simp only [List.map_toArray, List.map_cons, List.map_nil]); first | done | rfl) ?_
    with_reducible refine (r_Of CB.out).mono ?_
    rintro e y1_ ⟨rfl, hb⟩
    refine ⟨_, rfl, ?_⟩
    have n_MV := Aside0.mk (MV.out.trans (Mv.of_below hb))
    have n_SS := Aside0.mk (SS.out.below hb)
    have n_CB := Aside0.mk (Kd.C_below CB.out hb)
    have n_BK3 := Aside0.mk (blk_below BK3.out hb)
    clear MV
    have MV := n_MV
    clear n_MV
    clear SS
    have SS := n_SS
    clear n_SS
    clear CB
    have CB := n_CB
    clear n_CB
    clear BK3
    have BK3 := n_BK3
    clear n_BK3
    clear hb
    refine hK.out _ _ ⟨(blk_cell BK3.out 1).trans rfl, (blk_cell BK3.out 2).trans rfl⟩ (fun hHeld => ?_)
    clear hK K
    refine norm_ (a' := ?_) ?_ ?_
    rotate_left
    · show Act.put _ (some 14) _ = _
      simp only [Act.put, List.setIfInBounds_toArray, List.set_cons_zero, List.set_cons_succ, i64_w, i32_w]
      rfl
    refine one_ (i := 6) (N := some 15) #[true, true, true, true, true, true, true, false] rfl rfl (by kernel_rfl) (by decide) (fun K hK => ?_)
    refine goes_ Try.func23 (by kernel_rfl) rfl #[.pointer (some ⟨p, 0, none⟩), .int .i64 a, .agg (ofB l2).cs.toArray] (by rfl) rfl rfl (by (try simp only [List.map_toArray, List.map_cons, List.map_nil]); first | done | rfl) ?_
    with_reducible refine (b_Write SS.out (Nat.le_trans hBs MV.out.size) a (ofB l2)).mono ?_
    rintro e y2_ ⟨rfl, v2, hsa, hb⟩
    refine ⟨_, rfl, ?_⟩
    have m_MV := Aside0.mk (MV.out.trans hb)
    have m_SS := Aside0.mk (hsa)
    have m_BK3 := Aside0.mk (hb.blk BK3.out (SS.out.far BK3.out (by decide)))
    clear hb
    clear MV
    clear SS
    clear CB
    clear BK3
    have MV := m_MV
    clear m_MV
    have SS := m_SS
    clear m_SS
    have BK3 := m_BK3
    clear m_BK3
    clear hsa
    refine hK.out _ _ ⟨(blk_cell BK3.out 1).trans rfl, (blk_cell BK3.out 2).trans rfl⟩ (fun hHeld => ?_)
    clear hK K
    refine norm_ (a' := ?_) ?_ ?_
    rotate_left
    · show Act.put _ (some 15) _ = _
      simp only [Act.put, List.setIfInBounds_toArray, List.set_cons_zero, List.set_cons_succ, i64_w, i32_w]
      rfl
    refine pure_ (i := 7) (N := some 4) (v := ?_) (a' := ?_) #[true, true, true, true, true, true, true, true] rfl rfl (by kernel_rfl) (fun _ _ _ h => h) (Or.inl ⟨by rfl, ?_⟩) ?_ ?_
    rotate_left
    · intro w'
      go_simp
      with_reducible rfl
    rotate_left
    · simp only [Act.put, List.setIfInBounds_toArray, List.set_cons_zero, List.set_cons_succ, i64_w, i32_w]
      rfl
    refine done_ (by kernel_rfl) ?_
    clear hHeld
    go_wp2_with fail
    go_ret
    exact ⟨rfl, v2, SS.out, MV.out⟩
  by_cases k2 : k = 2
  case pos =>
    subst k2
    obtain rfl : C = 0 := by rw [hC.out, if_neg (by decide)]
    obtain rfl : Wn = [] := by rw [hW.out, if_neg (by decide), if_pos rfl]
    obtain rfl : Ln = setl (fun _ => 1) 0 W L := by rw [hL.out, if_pos rfl]
    clear hC hW hL
    go_wp2_with fail
    generalize w.alloc (.cells #[.int .i64 2, .int .i64 a, .slice A2 l2.length c2, .slice A3 l3.length c3] 34) = w1 at MV SS CB CF BK3 ⊢
    refine (b_Sync SS.out).mono ?_
    rintro e w2 ⟨rfl, hsa, hmv⟩
    have SS' := Aside0.mk hsa
    have MV' := Aside0.mk (MV.out.trans hmv)
    clear hsa hmv MV SS CB CF BK3 hA
    go_wp2_with fail
    go_ret
    exact ⟨rfl, _, SS'.out, MV'.out⟩
  by_cases k3 : k = 3
  case pos =>
    subst k3
    obtain rfl : C = 0 := by rw [hC.out, if_neg (by decide)]
    obtain rfl : Wn = [] := by rw [hW.out, if_neg (by decide), if_neg (by decide), if_pos rfl]
    obtain rfl : Ln = setl (fateOf l3) 0 W L := by rw [hL.out, if_neg (by decide), if_pos rfl]
    clear hC hW hL
    go_wp2_with fail
    generalize w.alloc (.cells #[.int .i64 3, .int .i64 a, .slice A2 l2.length c2, .slice A3 l3.length c3] 34) = w1 at MV SS CB CF BK3 ⊢
    refine (b_Crash SS.out CF.out hA.out).mono ?_
    rintro e w2 ⟨rfl, hsa, hmv⟩
    have SS' := Aside0.mk hsa
    have MV' := Aside0.mk (MV.out.trans hmv)
    clear hsa hmv MV SS CB CF BK3 hA
    go_wp2_with fail
    go_ret
    exact ⟨rfl, _, SS'.out, MV'.out⟩
  obtain rfl : C = 0 := by rw [hC.out, if_neg k1]
  obtain rfl : Wn = W := by rw [hW.out, if_neg k1, if_neg k2, if_neg k3]
  obtain rfl : Ln = L := by rw [hL.out, if_neg k2, if_neg k3]
  clear hC hW hL
  have e1 : (k == 1) = false := by simpa using k1
  have e2 : (k == 2) = false := by simpa using k2
  have e3 : (k == 3) = false := by simpa using k3
  clear k1 k2 k3
  go_wp2_with fail
  go_ret
  exact ⟨rfl, v, SS.out, MV.out⟩
end
end Go.Proofs.Ytpfkjjaohmdnjaa.Print
