/- The document's new store. -/
import Derived.Test.YtpfkjjaohmdnjaaProg
import Derived.Below
import Derived.Deep.Draws
import Derived.Deep.AppendLies
import Derived.Maps.AppendAt
import Derived.OwnWalk
import Derived.Laws.BytesArg
import Derived.Laws.MakeOwn
import Derived.Laws.OwnMore
import Derived.Deep.OwnRows
import Derived.Tactics
import Derived.Lib.ConvBytes
import Derived.Laws.Slices
import Derived.WalkKit
import Derived.KernelRfl
import Derived.RowKit3
import Derived.Deep.LoopGhost
import Derived.Deep.QuietTactic
import Derived.BigQuiet
import Derived.WideLaws
import Derived.Deep.DeepCutAuto
import Derived.Deep.CutBlock
import Derived.Deep.RegionHeld3
import Derived.Laws.Rows
import Derived.Lib.AppendStr
import Derived.ArgAppend
import Derived.Laws.IdiomCopy
import Derived.OrdersHeld
import Derived.Laws.BitsLemmas
import Derived.RowKit
import Derived.LoopN
import Derived.Handy
import Derived.Laws.EntriesVeiled
import Derived.MapKept
import Derived.Laws.Externs
import Derived.ChangeKeysEq
import Derived.Deep.WholeRow
import Derived.Test.YtpfkjjaohmdnjaaWWords
import Derived.Test.YtpfkjjaohmdnjaaWLast
import Derived.Test.YtpfkjjaohmdnjaaWTab
import Derived.Test.YtpfkjjaohmdnjaaWFour
import Derived.Test.YtpfkjjaohmdnjaaWQPut
import Derived.Test.YtpfkjjaohmdnjaaWApart
import Derived.Test.YtpfkjjaohmdnjaaWArr
import Derived.Test.YtpfkjjaohmdnjaaWZeros
import Derived.Test.YtpfkjjaohmdnjaaWFoot
import Derived.Test.YtpfkjjaohmdnjaaWKept
import Derived.Test.YtpfkjjaohmdnjaaWShare
import Derived.Test.YtpfkjjaohmdnjaaWN
import Derived.Test.YtpfkjjaohmdnjaaWFootNe
import Derived.Test.YtpfkjjaohmdnjaaWAt
import Derived.Test.YtpfkjjaohmdnjaaWEqStruct
import Derived.Test.YtpfkjjaohmdnjaaWRepsOne
import Derived.Test.YtpfkjjaohmdnjaaWInv
import Derived.Test.YtpfkjjaohmdnjaaWInvWords
import Derived.Test.YtpfkjjaohmdnjaaWGuard
import Derived.Test.YtpfkjjaohmdnjaaWNEv
import Derived.Test.YtpfkjjaohmdnjaaWMore
import Derived.Test.YtpfkjjaohmdnjaaBlkA
import Derived.Test.YtpfkjjaohmdnjaaBlkD
namespace Go.Proofs.Ytpfkjjaohmdnjaa.Print
open Go.RowKit Go.Proofs.YtpfkjjaohmdnjaaW.PrintWords Go.Proofs.YtpfkjjaohmdnjaaW.PrintLast Go.Proofs.YtpfkjjaohmdnjaaW.PrintMore
attribute [local go_sem] max2_int min2_int max_two min_two max_three min_three max_four min_four
set_option linter.unusedVariables false
set_option linter.unusedSimpArgs false
section
variable {w : World}
set_option maxHeartbeats 4000000 in
set_option maxRecDepth 100000 in
theorem r_New_bad (n : Int) (hn : ¬ (1 ≤ n ∧ n ≤ 4096)) : Calls Try.prog 11 #[.int .i64 n] w fun e w' => e = .returned (.tuple #[.pointer none, .int .i64 2]) ∧ Below w.heap.size w w' := by
  by_cases h1 : n < 1
  · go_enter Try.func11, Try.ntmps11
    go_wp2_with fail
    go_ret2
    exact ⟨rfl, Below.refl _ _⟩
  have h2 : 4096 < n := by omega
  go_enter Try.func11, Try.ntmps11
  go_wp2_with fail
  go_ret2
  exact ⟨rfl, Below.refl _ _⟩
theorem rh_info : (Try.prog.info? 69).map (fun i => (i.zero, i.size, i.bytes)) = some (some (.agg (hrow (Bk.z, false)).toArray), 65, 65) := by kernel_rfl
theorem rls_und : Try.prog.underlying 41 = some (.slice 69) := by kernel_rfl
set_option maxHeartbeats 4000000 in
set_option maxRecDepth 100000 in
theorem r_New (n : Nat) (hn : 1 ≤ n ∧ n ≤ 4096) : Calls Try.prog 11 #[.int .i64 n] w fun e w' => ∃ p, e = .returned (.tuple #[.pointer (some ⟨p, 0, none⟩), .int .i64 0]) ∧ ∃ F, RAt w.heap.size w' p F (zeros n) [] ∧ Mv (fun _ => False) F w w' := by
  obtain ⟨i0, hi0, hz0, hsz0, hb0⟩ := info_parts rh_info
  have h1 : ¬ (n : Int) < 1 := by omega
  have h2 : ¬ 4096 < (n : Int) := by omega
  have hmk := run_make (P := Try.prog) w 41 69 i0 _ rls_und hi0 hz0 .i64 .i64 n n (by omega) (by omega) (by rw [hb0]; omega) (by omega)
  rw [Int.toNat_natCast, hsz0] at hmk
  go_enter Try.func11, Try.ntmps11
  go_wp2_with fail
  rw [made_zeros]
  generalize hw1 : w.alloc (.cells (hcells (zeros n)) 69) = w1
  have s1 : w1.heap.size = w.heap.size + 1 := by rw [← hw1]; simp
  have b1 : Below w.heap.size w w1 := by rw [← hw1]; exact below_alloc (Below.refl _ _) _
  have k1 : w1.heap[w.heap.size]? = some (.cells (hcells (zeros n)) 69 (0, 0)) := by rw [← hw1]; exact blk_new w _
  clear hw1
  obtain ⟨O, hO⟩ : ∃ O : Obj, O = .cells #[.slice (some ⟨w.heap.size, 0, none⟩) n n, .slice none 0 0] 44 := ⟨_, rfl⟩
  rw [← hO]
  generalize hw3 : w1.alloc O = w3
  have b3 : Below w.heap.size w w3 := by rw [← hw3]; exact below_alloc b1 _
  have k3 : w3.heap[w.heap.size]? = some (.cells (hcells (zeros n)) 69 (0, 0)) := by rw [← hw3]; exact blk_alloc k1 _
  have p3 : w3.heap[w.heap.size + 1]? = some O := by rw [← hw3, ← s1]; exact blk_new w1 _
  clear hw3
  rw [hO] at p3
  go_ret2
  refine ⟨w.heap.size + 1, rfl, rfoot (w.heap.size + 1) w.heap.size (.slice none 0 0), ⟨w.heap.size, .slice none 0 0, ⟨by rw [zeros_len]; exact p3, k3, Kd.R_nil _ _ _ _ _, ⟨by omega, by omega⟩, by rw [zeros_len]; exact hn, by simp, fun x hx => by simp at hx⟩, rfl⟩, ?_⟩
  refine (Mv.of_below (F := fun _ => False) b3).weaken (fun _ h => h.elim) (fun k hk => .inr ?_)
  rcases hk with rfl | rfl | h
  · omega
  · omega
  · cases h
end
end Go.Proofs.Ytpfkjjaohmdnjaa.Print
