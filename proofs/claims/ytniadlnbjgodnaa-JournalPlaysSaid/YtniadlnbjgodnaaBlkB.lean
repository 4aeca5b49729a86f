/- The store's small methods: whether there is such a block, how many wait, how many there are. -/
import Derived.Test.YtniadlnbjgodnaaProg
import Derived.Below
import Derived.Deep.Draws
import Derived.Deep.AppendLies
import Derived.Maps.AppendAt
import Derived.OwnWalk
import Derived.Laws.BytesArg
import Derived.Laws.MakeOwn
import Derived.Laws.OwnMore
import Derived.Deep.OwnRows
import Derived.Tactics
import Derived.Lib.ConvBytes
import Derived.Laws.Slices
import Derived.WalkKit
import Derived.KernelRfl
import Derived.RowKit3
import Derived.Deep.LoopGhost
import Derived.Deep.QuietTactic
import Derived.BigQuiet
import Derived.WideLaws
import Derived.Deep.DeepCutAuto
import Derived.Deep.CutBlock
import Derived.Deep.RegionHeld3
import Derived.Laws.Rows
import Derived.Lib.AppendStr
import Derived.ArgAppend
import Derived.Laws.IdiomCopy
import Derived.OrdersHeld
import Derived.Laws.BitsLemmas
import Derived.RowKit
import Derived.LoopN
import Derived.Handy
import Derived.Laws.EntriesVeiled
import Derived.MapKept
import Derived.Laws.Externs
import Derived.ChangeKeysEq
import Derived.Deep.WholeRow
import Derived.Test.YtniadlnbjgodnaaWWords
import Derived.Test.YtniadlnbjgodnaaWLast
import Derived.Test.YtniadlnbjgodnaaWTab
import Derived.Test.YtniadlnbjgodnaaWFour
import Derived.Test.YtniadlnbjgodnaaWQPut
import Derived.Test.YtniadlnbjgodnaaWApart
import Derived.Test.YtniadlnbjgodnaaWArr
import Derived.Test.YtniadlnbjgodnaaWZeros
import Derived.Test.YtniadlnbjgodnaaWFoot
import Derived.Test.YtniadlnbjgodnaaWKept
import Derived.Test.YtniadlnbjgodnaaWShare
import Derived.Test.YtniadlnbjgodnaaWN
import Derived.Test.YtniadlnbjgodnaaWFootNe
import Derived.Test.YtniadlnbjgodnaaWAt
import Derived.Test.YtniadlnbjgodnaaWEqStruct
import Derived.Test.YtniadlnbjgodnaaWRepsOne
import Derived.Test.YtniadlnbjgodnaaWInv
import Derived.Test.YtniadlnbjgodnaaWInvWords
import Derived.Test.YtniadlnbjgodnaaWGuard
import Derived.Test.YtniadlnbjgodnaaWNEv
import Derived.Test.YtniadlnbjgodnaaWMore
import Derived.Test.YtniadlnbjgodnaaBlkA
namespace Go.Proofs.Ytniadlnbjgodnaa.Print
open Go.RowKit Go.Proofs.YtniadlnbjgodnaaW.PrintWords Go.Proofs.YtniadlnbjgodnaaW.PrintLast Go.Proofs.YtniadlnbjgodnaaW.PrintMore
attribute [local go_sem] max2_int min2_int max_two min_two max_three min_three max_four min_four
set_option linter.unusedVariables false
set_option linter.unusedSimpArgs false
section
variable {B : Nat} {w w' : World} {p gl gm : Nat} {v : Value} {L : List (Bk × Bool)} {W : List (Int × Bk)}
set_option maxHeartbeats 4000000 in
set_option maxRecDepth 100000 in
theorem b_check (h : SA B w p gl gm v L W) (a : Int) : Calls Try.prog 46 #[.pointer (some ⟨p, 0, none⟩), .int .i64 a] w fun e w' => e = .returned (.int .i64 (if 0 ≤ a ∧ a < L.length then 0 else 2)) ∧ Below w.heap.size w w' := by
  have hc : w.cell? ⟨p, 0, none⟩ = some (.slice (some ⟨gl, 0, none⟩) L.length L.length) := (blk_cell h.hp 0).trans rfl
  have hl := h.hL.2
  clear h
  by_cases h1 : a < 0
  · rw [if_neg (by omega)]
    go_enter Try.func46, Try.ntmps46
    go_wp2_with fail
    go_ret
    exact ⟨rfl, Below.refl _ _⟩
  by_cases h2 : (L.length : Int) ≤ a
  · rw [if_neg (by omega)]
    go_enter Try.func46, Try.ntmps46
    go_wp2_with fail
    go_ret
    exact ⟨rfl, Below.refl _ _⟩
  rw [if_pos ⟨by omega, by omega⟩]
  go_enter Try.func46, Try.ntmps46
  go_wp2_with fail
  go_ret
  exact ⟨rfl, Below.refl _ _⟩
set_option maxHeartbeats 4000000 in
set_option maxRecDepth 100000 in
theorem b_Waiting (h : SA B w p gl gm v L W) : Calls Try.prog 28 #[.pointer (some ⟨p, 0, none⟩)] w fun e w' => e = .returned (.int .i64 W.length) ∧ Below w.heap.size w w' := by
  obtain ⟨A, c, rfl, hc0, _⟩ := Kd.R_reads h.hw
  have hc : w.cell? ⟨p, 1, none⟩ = some (.slice A (W.map wrow).length c) := (blk_cell h.hp 1).trans rfl
  rw [List.length_map] at hc
  clear h
  go_enter Try.func28, Try.ntmps28
  go_wp2_with fail
  go_ret
  exact ⟨rfl, Below.refl _ _⟩
set_option maxHeartbeats 4000000 in
set_option maxRecDepth 100000 in
theorem b_Size (h : SA B w p gl gm v L W) : Calls Try.prog 32 #[.pointer (some ⟨p, 0, none⟩)] w fun e w' => e = .returned (.int .i64 L.length) ∧ Below w.heap.size w w' := by
  have hc : w.cell? ⟨p, 0, none⟩ = some (.slice (some ⟨gl, 0, none⟩) L.length L.length) := (blk_cell h.hp 0).trans rfl
  clear h
  go_enter Try.func32, Try.ntmps32
  go_wp2_with fail
  go_ret
  exact ⟨rfl, Below.refl _ _⟩
end
end Go.Proofs.Ytniadlnbjgodnaa.Print
