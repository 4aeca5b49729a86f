/- The block that begins with bytes; and no store's size. -/
import Derived.Test.YtpfkjjaohmdnjaaProg
import Derived.Below
import Derived.Deep.Draws
import Derived.Deep.AppendLies
import Derived.Maps.AppendAt
import Derived.OwnWalk
import Derived.Laws.BytesArg
import Derived.Laws.MakeOwn
import Derived.Laws.OwnMore
import Derived.Deep.OwnRows
import Derived.Tactics
import Derived.Lib.ConvBytes
import Derived.Laws.Slices
import Derived.WalkKit
import Derived.KernelRfl
import Derived.RowKit3
import Derived.Deep.LoopGhost
import Derived.Deep.QuietTactic
import Derived.BigQuiet
import Derived.WideLaws
import Derived.Deep.DeepCutAuto
import Derived.Deep.CutBlock
import Derived.Deep.RegionHeld3
import Derived.Laws.Rows
import Derived.Lib.AppendStr
import Derived.ArgAppend
import Derived.Laws.IdiomCopy
import Derived.OrdersHeld
import Derived.Laws.BitsLemmas
import Derived.RowKit
import Derived.LoopN
import Derived.Handy
import Derived.Laws.EntriesVeiled
import Derived.MapKept
import Derived.Laws.Externs
import Derived.ChangeKeysEq
import Derived.Deep.WholeRow
import Derived.Test.YtpfkjjaohmdnjaaWWords
import Derived.Test.YtpfkjjaohmdnjaaWLast
import Derived.Test.YtpfkjjaohmdnjaaWTab
import Derived.Test.YtpfkjjaohmdnjaaWFour
import Derived.Test.YtpfkjjaohmdnjaaWQPut
import Derived.Test.YtpfkjjaohmdnjaaWApart
import Derived.Test.YtpfkjjaohmdnjaaWArr
import Derived.Test.YtpfkjjaohmdnjaaWZeros
import Derived.Test.YtpfkjjaohmdnjaaWFoot
import Derived.Test.YtpfkjjaohmdnjaaWKept
import Derived.Test.YtpfkjjaohmdnjaaWShare
import Derived.Test.YtpfkjjaohmdnjaaWN
import Derived.Test.YtpfkjjaohmdnjaaWFootNe
import Derived.Test.YtpfkjjaohmdnjaaWAt
import Derived.Test.YtpfkjjaohmdnjaaWEqStruct
import Derived.Test.YtpfkjjaohmdnjaaWRepsOne
import Derived.Test.YtpfkjjaohmdnjaaWInv
import Derived.Test.YtpfkjjaohmdnjaaWInvWords
import Derived.Test.YtpfkjjaohmdnjaaWGuard
import Derived.Test.YtpfkjjaohmdnjaaWNEv
import Derived.Test.YtpfkjjaohmdnjaaWMore
import Derived.Test.YtpfkjjaohmdnjaaBlkA
import Derived.Test.YtpfkjjaohmdnjaaBlkB
namespace Go.Proofs.Ytpfkjjaohmdnjaa.Print
open Go.RowKit Go.Proofs.YtpfkjjaohmdnjaaW.PrintWords Go.Proofs.YtpfkjjaohmdnjaaW.PrintLast Go.Proofs.YtpfkjjaohmdnjaaW.PrintMore
attribute [local go_sem] max2_int min2_int max_two min_two max_three min_three max_four min_four
set_option linter.unusedVariables false
set_option linter.unusedSimpArgs false
section
variable {w w' : World}
set_option maxHeartbeats 4000000 in
set_option maxRecDepth 100000 in
theorem b_Size_nil : Calls Try.prog 18 #[.pointer none] w fun e w' => e = .returned (.int .i64 0) ∧ Below w.heap.size w w' := by
  go_enter Try.func18, Try.ntmps18
  go_wp2_with fail
  go_ret
  exact ⟨rfl, Below.refl _ _⟩
set_option maxHeartbeats 8000000 in
set_option maxRecDepth 100000 in
theorem r_Of {A : Option Addr} {c : Nat} {l : List Int} (h : Kd.C (Kd.int .u8) w A l.length l) : Calls Try.prog 14 #[.slice A l.length c] w fun e w' => e = .returned (.agg (ofB l).cs.toArray) ∧ Below w.heap.size w w' := by
  have hz := fun W => rbk_zero W
  have hzv : Bk.z.v = .agg Bk.z.cs.toArray := rfl
  have hl0 := h.2.1
  have HB := Aside0.mk (below_alloc (below_alloc (Below.refl w.heap.size w) (.cells Bk.z.cs.toArray 37)) (.cells Bk.z.cs.toArray 37))
  have BK2 := Aside0.mk (blk_alloc (blk_new w (.cells Bk.z.cs.toArray 37)) (.cells Bk.z.cs.toArray 37))
  have BK3 := Aside0.mk (heap_alloc2_new w (.cells Bk.z.cs.toArray 37) (.cells Bk.z.cs.toArray 37))
  replace h := Aside0.mk h
  go_enter Try.func14, Try.ntmps14
  go_wp2_with fail
  generalize (w.alloc (.cells Bk.z.cs.toArray 37)).alloc (.cells Bk.z.cs.toArray 37) = w1 at HB BK2 BK3 ⊢
  go_loopw [4] (fun u wr => ∃ i : Nat, i ≤ l.length ∧ i ≤ 64 ∧ u = .int .i64 i ∧ Aside0 (Below w.heap.size w wr) ∧ Aside0 (wr.heap[w.heap.size]? = some (.cells Bk.z.cs.toArray 37 (0, 0))) ∧ Aside0 (wr.heap[w.heap.size + 1]? = some (.cells (ofB (l.take i)).cs.toArray 37 (0, 0)))) (fun u _ => ((l.length : Int) - intOf u).toNat)
  case atStart => exact ⟨0, Nat.zero_le _, by omega, rfl, HB, BK2, by rw [List.take_zero, ofB_nil]; exact BK3⟩
  case round =>
    obtain ⟨i, hi, h64, rfl, HB, BK2, BK3⟩ := hrel
    by_cases hend : l.length ≤ i ∨ 64 ≤ i
    · rw [ofB_full l i hend] at BK3
      have fin : ∀ wq, wq = wr.setRow w.heap.size (ofB l).cs.toArray → Below w.heap.size w wq ∧ wq.heap[w.heap.size]? = some (.cells (ofB l).cs.toArray 37 (0, 0)) := fun wq e => by rw [e]; exact ⟨row_below HB.out (Nat.le_refl _) _, setRow_heap _ _ _ _ _ _ BK2.out⟩
      by_cases h1 : l.length ≤ i
      · go_wp2_with (first | ((with_reducible refine gate_dst (N := 21) rfl ?_); refine wpl_ldbk 37 _ (w.heap.size + 1) (ofB l) 37 (0, 0) _ _ rfl rfl rfl BK3.out rbk_und rbk_info ?_) | ((with_reducible refine gate_store (t := 37) (p := 2) (v := .tmp 21) rfl ?_); refine wpl_stbk 37 _ _ w.heap.size (ofB l) 37 Bk.z rfl rfl rfl rfl rfl BK2.out rbk_info ?_))
        exact bodyPost_ret (v := .agg (ofB l).cs.toArray) (results_cell_row Try.results14 _ _ w.heap.size 37 _ (0, 0) _ rfl (fin _ rfl).2 rbk_und rfl (by rw [rbk_info, bk_sz])) rfl ⟨rfl, (fin _ rfl).1⟩
      · have h2 : 64 ≤ i := by omega
        go_wp2_with (first | ((with_reducible refine gate_dst (N := 21) rfl ?_); refine wpl_ldbk 37 _ (w.heap.size + 1) (ofB l) 37 (0, 0) _ _ rfl rfl rfl BK3.out rbk_und rbk_info ?_) | ((with_reducible refine gate_store (t := 37) (p := 2) (v := .tmp 21) rfl ?_); refine wpl_stbk 37 _ _ w.heap.size (ofB l) 37 Bk.z rfl rfl rfl rfl rfl BK2.out rbk_info ?_))
        exact bodyPost_ret (v := .agg (ofB l).cs.toArray) (results_cell_row Try.results14 _ _ w.heap.size 37 _ (0, 0) _ rfl (fin _ rfl).2 rbk_und rfl (by rw [rbk_info, bk_sz])) rfl ⟨rfl, (fin _ rfl).1⟩
    · have h1 : i < l.length := by omega
      have h2 : i < 64 := by omega
      obtain ⟨ad, rfl, hx0⟩ := Kd.at_int (Kd.C_below h.out HB.out) (i : Int) (by omega) (by omega)
      rw [Int.toNat_natCast] at hx0
      have hrd : YtpfkjjaohmdnjaaW.PrintWords.rd l (i : Int) = l[i] := by simp [YtpfkjjaohmdnjaaW.PrintWords.rd, h1]
      have hst := Aside0.mk (ofB_step l i h1 h2)
      rw [hrd] at hx0
      generalize l[i] = x at hx0 hst
      have kf := blk_frozen BK3.out i
      have kc := (blk_cell BK3.out i).trans (show (ofB (l.take i)).cs.toArray[i]? = some _ from by rw [List.getElem?_toArray]; exact Bk.get _ i h2)
      go_wp2_with fail
      go_roundw
      case rel => exact ⟨i + 1, by omega, by omega, by go_num, ⟨HB.out.setCell (p := ⟨w.heap.size + 1, i, none⟩) (by show w.heap.size ≤ w.heap.size + 1; omega) _⟩, ⟨(Below.heap_setCell _ _ _ _ (by show w.heap.size ≠ w.heap.size + 1; omega)).trans BK2.out⟩, ⟨blk_put BK3.out i _ hst.out⟩⟩
      case measure => simp [intOf]; omega
end
end Go.Proofs.Ytpfkjjaohmdnjaa.Print
