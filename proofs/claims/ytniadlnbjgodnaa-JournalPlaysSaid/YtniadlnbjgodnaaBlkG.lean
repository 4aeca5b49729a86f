/- What settling does: each write that waits comes to its end; then none waits. -/
import Derived.Test.YtniadlnbjgodnaaProg
import Derived.Below
import Derived.Deep.Draws
import Derived.Deep.AppendLies
import Derived.Maps.AppendAt
import Derived.OwnWalk
import Derived.Laws.BytesArg
import Derived.Laws.MakeOwn
import Derived.Laws.OwnMore
import Derived.Deep.OwnRows
import Derived.Tactics
import Derived.Lib.ConvBytes
import Derived.Laws.Slices
import Derived.WalkKit
import Derived.KernelRfl
import Derived.RowKit3
import Derived.Deep.LoopGhost
import Derived.Deep.QuietTactic
import Derived.BigQuiet
import Derived.WideLaws
import Derived.Deep.DeepCutAuto
import Derived.Deep.CutBlock
import Derived.Deep.RegionHeld3
import Derived.Laws.Rows
import Derived.Lib.AppendStr
import Derived.ArgAppend
import Derived.Laws.IdiomCopy
import Derived.OrdersHeld
import Derived.Laws.BitsLemmas
import Derived.RowKit
import Derived.LoopN
import Derived.Handy
import Derived.Laws.EntriesVeiled
import Derived.MapKept
import Derived.Laws.Externs
import Derived.ChangeKeysEq
import Derived.Deep.WholeRow
import Derived.Test.YtniadlnbjgodnaaWWords
import Derived.Test.YtniadlnbjgodnaaWLast
import Derived.Test.YtniadlnbjgodnaaWTab
import Derived.Test.YtniadlnbjgodnaaWFour
import Derived.Test.YtniadlnbjgodnaaWQPut
import Derived.Test.YtniadlnbjgodnaaWApart
import Derived.Test.YtniadlnbjgodnaaWArr
import Derived.Test.YtniadlnbjgodnaaWZeros
import Derived.Test.YtniadlnbjgodnaaWFoot
import Derived.Test.YtniadlnbjgodnaaWKept
import Derived.Test.YtniadlnbjgodnaaWShare
import Derived.Test.YtniadlnbjgodnaaWN
import Derived.Test.YtniadlnbjgodnaaWFootNe
import Derived.Test.YtniadlnbjgodnaaWAt
import Derived.Test.YtniadlnbjgodnaaWEqStruct
import Derived.Test.YtniadlnbjgodnaaWRepsOne
import Derived.Test.YtniadlnbjgodnaaWInv
import Derived.Test.YtniadlnbjgodnaaWInvWords
import Derived.Test.YtniadlnbjgodnaaWGuard
import Derived.Test.YtniadlnbjgodnaaWNEv
import Derived.Test.YtniadlnbjgodnaaWMore
import Derived.Test.YtniadlnbjgodnaaBlkA
import Derived.Test.YtniadlnbjgodnaaBlkB
import Derived.Test.YtniadlnbjgodnaaBlkE
import Derived.Test.YtniadlnbjgodnaaBlkF
namespace Go.Proofs.Ytniadlnbjgodnaa.Print
open Go.RowKit Go.Proofs.YtniadlnbjgodnaaW.PrintWords Go.Proofs.YtniadlnbjgodnaaW.PrintLast Go.Proofs.YtniadlnbjgodnaaW.PrintMore
attribute [local go_sem] max2_int min2_int max_two min_two max_three min_three max_four min_four
set_option linter.unusedVariables false
set_option linter.unusedSimpArgs false
section
variable {B : Nat} {w w' : World} {p gl gm : Nat} {v : Value} {L : List (Bk × Bool)} {W : List (Int × Bk)}
theorem wl_zero (W : World) : (zeroValue 100).run Try.prog W = .ok (.agg (wrow (0, Bk.z)).toArray) W := by kernel_rfl
theorem settlec_ok : FnOk Try.prog 56 := ⟨_, Try.func56, by kernel_rfl, by kernel_rfl⟩
set_option maxHeartbeats 8000000 in
set_option maxRecDepth 100000 in
theorem b_drain (h : SA B w p gl gm v L W) {gf gs n : Nat} {caps : Array Value} (hf : w.heap[gf]? = some (.cells #[.func (.func n) #[] caps] 96 (0, 0))) (hs : w.heap[gs]? = some (.cells #[.pointer (some ⟨p, 0, none⟩)] 25 (0, 0))) (hn : FnOk Try.prog n) (fate : Nat → Int)
    (hfate : ∀ (i : Nat) w', i < W.length → Mv (foot p gl gm v) (foot p gl gm v) w w' → Calls Try.prog n (#[.int .i64 i] ++ caps) w' fun e w'' => e = .returned (.int .u8 (fate i)) ∧ Below w'.heap.size w' w'') :
    Calls Try.prog 55 #[.pointer (some ⟨p, 1, none⟩), .func (.func 56) #[] #[.pointer (some ⟨gf, 0, none⟩), .pointer (some ⟨gs, 0, none⟩)]] w fun e w' => e = .returned (.tuple #[]) ∧ SP B w' p gl gm (.slice none 0 0) (setl fate 0 W L) W [] ∧ Mv (foot p gl gm v) (foot p gl gm v) w w' := by
  obtain ⟨A, c, hv, hc0, _⟩ := Kd.R_reads h.hw
  rw [List.length_map] at hv hc0
  subst hv
  have hcv : w.cell? ⟨p, 1, none⟩ = some (.slice A W.length c) := (blk_cell h.hp 1).trans rfl
  have hW := h.hW.1
  have h := Aside0.mk h
  have hf := Aside0.mk hf
  have hs := Aside0.mk hs
  have hfate := Aside0.mk hfate
  have hzz := fun W => wl_zero W
  go_enter Try.func55, Try.ntmps55
  go_wp2_with fail
  go_loopw [11] (fun u wr => ∃ i : Nat, i ≤ W.length ∧ u = .int .i64 i ∧ Aside0 (SA B wr p gl gm (.slice A W.length c) (setl fate 0 (W.take i) L) W) ∧ Aside0 (Mv (foot p gl gm (.slice A W.length c)) (foot p gl gm (.slice A W.length c)) w wr) ∧ Aside0 (wr.heap[gf]? = some (.cells #[.func (.func n) #[] caps] 96 (0, 0))) ∧ Aside0 (wr.heap[gs]? = some (.cells #[.pointer (some ⟨p, 0, none⟩)] 25 (0, 0)))) (fun u _ => ((W.length : Int) - intOf u).toNat)
  case atStart => exact ⟨0, Nat.zero_le _, rfl, ⟨h.out⟩, ⟨Mv.refl _ _⟩, hf, hs⟩
  case round =>
    obtain ⟨i, hi, rfl, HS, HM, BKf, BKs⟩ := hrel
    by_cases hlt : i < W.length
    · obtain ⟨ad, hA, hcell⟩ := row_get HS.out.hw i hlt
      have hLi : (setl fate 0 (W.take i) L).length = L.length := setl_len _ _ _ _
      obtain ⟨q, b, hx, hq⟩ : ∃ (q : Nat) (b : Bk), W[i] = ((q : Int), b) ∧ q < (setl fate 0 (W.take i) L).length := by
        have := HS.out.hW.2 _ (List.getElem_mem hlt)
        exact ⟨W[i].1.toNat, W[i].2, Prod.ext (by simp; omega) rfl, by omega⟩
      have hstep := setl_step fate W L i hlt
      rw [hx] at hcell hstep
      replace hstep := Aside0.mk hstep
      replace hcell := Aside0.mk hcell
      replace hx := Aside0.mk hx
      generalize setl fate 0 (W.take i) L = Li at HS hLi hq hstep
      subst hA
      go_wp2_with (first | ((with_reducible refine gate_dst (N := 15) rfl ?_); refine wpl_value rfl (load_run_at 100 (.tmp 14) rfl (ad.add (i * 65)) rfl (wrow ((q : Int), b)) _ hcell.out Try.underlying100 rfl (by rw [wrow_len]; exact w_isize)) ?_) | ((with_reducible refine gate_store (t := 100) (p := 5) (v := .tmp 15) rfl ?_); refine Shut.out ?_))
      unfold Shut
      change wpList _ _ _ _ _ (wr.alloc (.cells (wrow (0, Bk.z)).toArray 100))
      obtain ⟨hnb, hnk⟩ := newbk wr (wrow (0, Bk.z)).toArray (wrow ((q : Int), b)).toArray 100
      refine store_rowTo rfl 100 (.tmp 5) (.tmp 15) rfl rfl wr.heap.size (wrow ((q : Int), b)).toArray rfl rfl 100 _ (blk_new wr _) (by rw [wrow_size]; exact w_isize) (by rw [wrow_size, wrow_size]) (wrow_all _) ?_
      have HS' := Aside0.mk (HS.out.below hnb)
      have HM' := Aside0.mk (HM.out.trans (Mv.of_below hnb))
      have BKf' := Aside0.mk (blk_below BKf.out hnb)
      have BKs' := Aside0.mk (blk_below BKs.out hnb)
      have BK5 := Aside0.mk hnk
      clear HS HM BKf BKs hnb hnk hcell
      generalize (wr.alloc (.cells (wrow (0, Bk.z)).toArray 100)).setRow wr.heap.size (wrow ((q : Int), b)).toArray = w2 at HS' HM' BKf' BKs' BK5 ⊢
      generalize wr.heap.size = g5 at BK5 ⊢
      go_wp2_with (first | ((with_reducible refine gate_dst (N := 18) rfl ?_); refine wpl_value rfl (load_run 100 (.tmp 5) rfl g5 rfl 100 _ (0, 0) _ BK5.out Try.underlying100 rfl (by rw [wrow_size]; exact w_isize)) ?_))
      refine (b_settlec HS'.out BKf'.out BKs'.out hn q b hq i (fate i) (fun w' hb => hfate.out i w' hlt (HM'.out.trans (Mv.of_below hb)))).mono ?_
      rintro e w3 ⟨rfl, hsa, hmv⟩
      rw [← hstep.out] at hsa
      have HS := Aside0.mk hsa
      have HM := Aside0.mk (HM'.out.trans hmv)
      have BKf := Aside0.mk (hmv.blk BKf'.out (HS'.out.far BKf'.out (by decide)))
      have BKs := Aside0.mk (hmv.blk BKs'.out (HS'.out.far BKs'.out (by decide)))
      clear hsa hmv HS' HM' BKf' BKs' BK5
      go_wp2_with fail
      go_roundw
      case rel => exact ⟨i + 1, by omega, by go_num, HS, HM, BKf, BKs⟩
      case measure => simp [intOf]; omega
    · obtain rfl : i = W.length := by omega
      rw [List.take_length] at HS
      have kf := blk_frozen HS.out.hp 1
      have kc := (blk_cell HS.out.hp 1).trans rfl
      go_wp2_with fail
      go_end0
      have hp := blk_put HS.out.hp 1 (.slice none 0 0) rfl
      have hne : ∀ k, k ≠ p → (wr.setCell ⟨p, 1, none⟩ (.slice none 0 0)).heap[k]? = wr.heap[k]? := fun k hk => Below.heap_setCell _ _ _ k hk
      have n1 : gl ≠ p := fun e => by have := HS.out.hp; rw [← e, HS.out.hl] at this; injection this with this; injection this with _ this; exact absurd this (by decide)
      obtain ⟨m, hm, hm2⟩ := HS.out.hm
      have n2 : gm ≠ p := fun e => by obtain ⟨es, c, h1, _⟩ := hm; rw [e, HS.out.hp] at h1; injection h1 with h1; cases h1
      exact ⟨rfl, ⟨hp, (hne gl n1).trans HS.out.hl, Kd.R_nil _ _ _ _ _, ⟨m, hm.same (hne gm n2), hm2⟩⟩, HM.out.trans (Mv.cell _ _ (Or.inl rfl) _)⟩
end
end Go.Proofs.Ytniadlnbjgodnaa.Print
