/- Rows of ones, beside stores. -/
import Derived.Test.YtpfkjjaohmdnjaaProg
import Derived.Below
import Derived.Deep.Draws
import Derived.Deep.AppendLies
import Derived.Maps.AppendAt
import Derived.OwnWalk
import Derived.Laws.BytesArg
import Derived.Laws.MakeOwn
import Derived.Laws.OwnMore
import Derived.Deep.OwnRows
import Derived.Tactics
import Derived.Lib.ConvBytes
import Derived.Laws.Slices
import Derived.WalkKit
import Derived.KernelRfl
import Derived.RowKit3
import Derived.Deep.LoopGhost
import Derived.Deep.QuietTactic
import Derived.BigQuiet
import Derived.WideLaws
import Derived.Deep.DeepCutAuto
import Derived.Deep.CutBlock
import Derived.Deep.RegionHeld3
import Derived.Laws.Rows
import Derived.Lib.AppendStr
import Derived.ArgAppend
import Derived.Laws.IdiomCopy
import Derived.OrdersHeld
import Derived.Laws.BitsLemmas
import Derived.RowKit
import Derived.LoopN
import Derived.Handy
import Derived.Laws.EntriesVeiled
import Derived.MapKept
import Derived.Laws.Externs
import Derived.ChangeKeysEq
import Derived.Deep.WholeRow
import Derived.Test.YtpfkjjaohmdnjaaWWords
import Derived.Test.YtpfkjjaohmdnjaaWLast
import Derived.Test.YtpfkjjaohmdnjaaWTab
import Derived.Test.YtpfkjjaohmdnjaaWFour
import Derived.Test.YtpfkjjaohmdnjaaWQPut
import Derived.Test.YtpfkjjaohmdnjaaWApart
import Derived.Test.YtpfkjjaohmdnjaaWArr
import Derived.Test.YtpfkjjaohmdnjaaWZeros
import Derived.Test.YtpfkjjaohmdnjaaWFoot
import Derived.Test.YtpfkjjaohmdnjaaWKept
import Derived.Test.YtpfkjjaohmdnjaaWShare
import Derived.Test.YtpfkjjaohmdnjaaWN
import Derived.Test.YtpfkjjaohmdnjaaWFootNe
import Derived.Test.YtpfkjjaohmdnjaaWAt
import Derived.Test.YtpfkjjaohmdnjaaWEqStruct
import Derived.Test.YtpfkjjaohmdnjaaWRepsOne
import Derived.Test.YtpfkjjaohmdnjaaWInv
import Derived.Test.YtpfkjjaohmdnjaaWInvWords
import Derived.Test.YtpfkjjaohmdnjaaWGuard
import Derived.Test.YtpfkjjaohmdnjaaWNEv
import Derived.Test.YtpfkjjaohmdnjaaWMore
import Derived.Test.YtpfkjjaohmdnjaaBlkA
import Derived.Test.YtpfkjjaohmdnjaaBlkP
import Derived.Test.YtpfkjjaohmdnjaaBlkR
import Derived.Test.YtpfkjjaohmdnjaaBlkT
import Derived.Test.YtpfkjjaohmdnjaaBlkU
import Derived.Test.YtpfkjjaohmdnjaaBlkV
namespace Go.Proofs.Ytpfkjjaohmdnjaa.Print
open Go.RowKit Go.Proofs.YtpfkjjaohmdnjaaW.PrintWords Go.Proofs.YtpfkjjaohmdnjaaW.PrintLast Go.Proofs.YtpfkjjaohmdnjaaW.PrintMore
attribute [local go_sem] max2_int min2_int max_two min_two max_three min_three max_four min_four
set_option linter.unusedVariables false
set_option linter.unusedSimpArgs false
section
variable {B base e : Nat} {w w' : World} {p gl gm : Nat} {v u : Value} {L : List (Bk × Bool)} {W : List (Int × Bk)} {xs : List Int} {ok : Nat → Prop}
theorem ones_type (h : Kd.R (Kd.int .u8) e w base ok u xs) {k : Nat} (hk : u.ownBlock = some k) : ∃ cs, w.heap[k]? = some (.cells cs e (0, 0)) := by
  obtain ⟨inner, ho⟩ := Kd.R_own h
  exact own_typed ho k hk
theorem ones_far (hs : SA B w p gl gm v L W) (h : Kd.R (Kd.int .u8) 5 w base ok u xs) {k : Nat} (hk : u.ownBlock = some k) : ¬ foot p gl gm v k := by
  obtain ⟨cs, h1⟩ := ones_type h hk
  exact hs.far h1 (by decide)
theorem SA.grow (hs : SA B w p gl gm v L W) (h : Kd.R (Kd.int .u8) 5 w base ok u xs) (hg : w.grownBy w' u.ownBlock) : SA B w' p gl gm v L W := hs.keep (fun k hk => hg.block k (hs.lt hk) (fun e => ones_far hs h e.symm hk))
theorem ones_mv (hs : SA B w p gl gm v L W) (h : Kd.R (Kd.int .u8) 5 w base (fun _ => True) u xs) {F' : Nat → Prop} (hm : Mv (foot p gl gm v) F' w w') : Kd.R (Kd.int .u8) 5 w' base (fun _ => True) u xs :=
  Kd.R_mono (Kd.R_step (Kd.R_tight rfl h) (fun k hk hlt => hm.block k hlt (ones_far hs h hk.symm))) (fun _ _ => trivial)
theorem by_info : (Try.prog.info? 5).map (fun i => (i.zero, i.size, i.bytes)) = some (some (.int .u8 0), 1, 1) := by kernel_rfl
theorem by_und : Try.prog.underlying 32 = some (.slice 5) := by kernel_rfl
theorem et_isz : (Try.prog.info? 54).map (·.size) = some 30 := by kernel_rfl
end
section
variable {B : Nat} {w w' : World} {p gl gm : Nat} {v : Value} {L : List (Bk × Bool)} {W : List (Int × Bk)}
theorem SA.cell_far (h : SA B w p gl gm v L W) {g t : Nat} {cs : Array Value} (hg : w.heap[g]? = some (.cells cs t (0, 0))) (ht : t ≠ 65 ∧ t ≠ 73 ∧ t ≠ 78) (i : Nat) (u : Value) : SA B (w.setCell ⟨g, i, none⟩ u) p gl gm v L W :=
  h.keep (fun k hk => Below.heap_setCell w _ u k (fun e => h.far hg ht ((show k = g from e) ▸ hk)))
theorem wcells_put (want : List Bk) (j : Nat) (hj : j < want.length) (b : Bk) : ∀ q, q < 64 → (wcells (want.set j b))[j * 64 + q]? = b.cs[q]? := fun q hq => by
  rw [wcells_at (want.set j b) j q (by rw [List.length_set]; exact hj) hq]
  simp
end
end Go.Proofs.Ytpfkjjaohmdnjaa.Print
