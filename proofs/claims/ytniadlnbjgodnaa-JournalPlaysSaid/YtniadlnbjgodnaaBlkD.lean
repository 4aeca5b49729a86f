/- A new store, its blocks noughts. -/
import Derived.Test.YtniadlnbjgodnaaProg
import Derived.Below
import Derived.Deep.Draws
import Derived.Deep.AppendLies
import Derived.Maps.AppendAt
import Derived.OwnWalk
import Derived.Laws.BytesArg
import Derived.Laws.MakeOwn
import Derived.Laws.OwnMore
import Derived.Deep.OwnRows
import Derived.Tactics
import Derived.Lib.ConvBytes
import Derived.Laws.Slices
import Derived.WalkKit
import Derived.KernelRfl
import Derived.RowKit3
import Derived.Deep.LoopGhost
import Derived.Deep.QuietTactic
import Derived.BigQuiet
import Derived.WideLaws
import Derived.Deep.DeepCutAuto
import Derived.Deep.CutBlock
import Derived.Deep.RegionHeld3
import Derived.Laws.Rows
import Derived.Lib.AppendStr
import Derived.ArgAppend
import Derived.Laws.IdiomCopy
import Derived.OrdersHeld
import Derived.Laws.BitsLemmas
import Derived.RowKit
import Derived.LoopN
import Derived.Handy
import Derived.Laws.EntriesVeiled
import Derived.MapKept
import Derived.Laws.Externs
import Derived.ChangeKeysEq
import Derived.Deep.WholeRow
import Derived.Test.YtniadlnbjgodnaaWWords
import Derived.Test.YtniadlnbjgodnaaWLast
import Derived.Test.YtniadlnbjgodnaaWTab
import Derived.Test.YtniadlnbjgodnaaWFour
import Derived.Test.YtniadlnbjgodnaaWQPut
import Derived.Test.YtniadlnbjgodnaaWApart
import Derived.Test.YtniadlnbjgodnaaWArr
import Derived.Test.YtniadlnbjgodnaaWZeros
import Derived.Test.YtniadlnbjgodnaaWFoot
import Derived.Test.YtniadlnbjgodnaaWKept
import Derived.Test.YtniadlnbjgodnaaWShare
import Derived.Test.YtniadlnbjgodnaaWN
import Derived.Test.YtniadlnbjgodnaaWFootNe
import Derived.Test.YtniadlnbjgodnaaWAt
import Derived.Test.YtniadlnbjgodnaaWEqStruct
import Derived.Test.YtniadlnbjgodnaaWRepsOne
import Derived.Test.YtniadlnbjgodnaaWInv
import Derived.Test.YtniadlnbjgodnaaWInvWords
import Derived.Test.YtniadlnbjgodnaaWGuard
import Derived.Test.YtniadlnbjgodnaaWNEv
import Derived.Test.YtniadlnbjgodnaaWMore
import Derived.Test.YtniadlnbjgodnaaBlkA
import Derived.Test.YtniadlnbjgodnaaBlkB
namespace Go.Proofs.Ytniadlnbjgodnaa.Print
open Go.RowKit Go.Proofs.YtniadlnbjgodnaaW.PrintWords Go.Proofs.YtniadlnbjgodnaaW.PrintLast Go.Proofs.YtniadlnbjgodnaaW.PrintMore
attribute [local go_sem] max2_int min2_int max_two min_two max_three min_three max_four min_four
set_option linter.unusedVariables false
set_option linter.unusedSimpArgs false
section
def zeros (n : Nat) : List (Bk × Bool) := List.replicate n (Bk.z, false)
theorem zeros_len (n : Nat) : (zeros n).length = n := List.length_replicate
theorem flat_rep (k : Nat) (hk : 0 < k) (Z : List Value) (hZ : Z.length = k) (n j : Nat) : ((List.replicate n ()).flatMap (fun _ => Z))[j]? = if j < n * k then Z[j % k]? else none := by
  by_cases hj : j < n * k
  · rw [if_pos hj]
    have hq : j / k < n := (Nat.div_lt_iff_lt_mul hk).2 hj
    have hd : (j / k) * k + j % k = j := by rw [Nat.mul_comm]; exact Nat.div_add_mod j k
    have := flat_get (f := fun _ : Unit => Z) (n := k) (fun _ => hZ) (List.replicate n ()) (j / k) (j % k) (by simpa using hq) (Nat.mod_lt _ hk)
    rwa [hd] at this
  · rw [if_neg hj]
    exact List.getElem?_eq_none (by rw [flat_len (fun _ => hZ), List.length_replicate]; omega)
theorem made_zeros (n : Nat) : madeCells (hrow (Bk.z, false)).toArray (n * 65) = hcells (zeros n) := by
  have e : hcells (zeros n) = ((List.replicate n ()).flatMap (fun _ => hrow (Bk.z, false))).toArray := by
    rw [hcells, zeros]
    congr 1
    induction n with
    | zero => rfl
    | succ n ih => rw [List.replicate_succ, List.replicate_succ, List.flatMap_cons, List.flatMap_cons, ih]
  rw [e]
  apply Array.ext_getElem?
  intro j
  refine Eq.trans ?_ (List.getElem?_toArray.trans (flat_rep 65 (by omega) _ (hrow_len (Bk.z, false)) n j)).symm
  have hZ := hrow_len (Bk.z, false)
  clear e
  generalize hrow (Bk.z, false) = Z at *
  by_cases hj : j < n * 65
  · have hr' : j % 65 < Z.length := by rw [hZ]; exact Nat.mod_lt _ (by omega)
    rw [if_pos hj]
    simp [madeCells, hj, hZ]
    simp [hr']
  · rw [if_neg hj]
    simp [madeCells]
    omega
variable {w : World}
set_option maxHeartbeats 4000000 in
set_option maxRecDepth 100000 in
theorem b_New_bad (n : Int) (hn : ¬ (1 ≤ n ∧ n ≤ 4096)) : Calls Try.prog 10 #[.int .i64 n] w fun e w' => e = .returned (.tuple #[.pointer none, .int .i64 2]) ∧ Below w.heap.size w w' := by
  by_cases h1 : n < 1
  · go_enter Try.func10, Try.ntmps10
    go_wp2_with fail
    go_ret2
    exact ⟨rfl, Below.refl _ _⟩
  have h2 : 4096 < n := by omega
  go_enter Try.func10, Try.ntmps10
  go_wp2_with fail
  go_ret2
  exact ⟨rfl, Below.refl _ _⟩
theorem mk_map (W : World) : (Instr.makeMap 73 none).run Try.prog W = .ok (.map (some W.heap.size)) (W.alloc (.map #[] 0)) := by kernel_rfl
theorem h_info : (Try.prog.info? 103).map (fun i => (i.zero, i.size, i.bytes)) = some (some (.agg (hrow (Bk.z, false)).toArray), 65, 65) := by kernel_rfl
theorem ls_und : Try.prog.underlying 72 = some (.slice 103) := by kernel_rfl
set_option maxHeartbeats 4000000 in
set_option maxRecDepth 100000 in
theorem b_New (n : Nat) (hn : 1 ≤ n ∧ n ≤ 4096) : Calls Try.prog 10 #[.int .i64 n] w fun e w' => ∃ p, e = .returned (.tuple #[.pointer (some ⟨p, 0, none⟩), .int .i64 0]) ∧ ∃ F, SAt w.heap.size w' p F (zeros n) [] ∧ Mv (fun _ => False) F w w' := by
  obtain ⟨i0, hi0, hz0, hsz0, hb0⟩ := info_parts h_info
  have h1 : ¬ (n : Int) < 1 := by omega
  have h2 : ¬ 4096 < (n : Int) := by omega
  have hmk := run_make (P := Try.prog) w 72 103 i0 _ ls_und hi0 hz0 .i64 .i64 n n (by omega) (by omega) (by rw [hb0]; omega) (by omega)
  rw [Int.toNat_natCast, hsz0] at hmk
  have hmm := fun W => mk_map W
  go_enter Try.func10, Try.ntmps10
  go_wp2_with fail
  rw [made_zeros]
  generalize hw1 : w.alloc (.cells (hcells (zeros n)) 103) = w1
  have s1 : w1.heap.size = w.heap.size + 1 := by rw [← hw1]; simp
  have b1 : Below w.heap.size w w1 := by rw [← hw1]; exact below_alloc (Below.refl _ _) _
  have k1 : w1.heap[w.heap.size]? = some (.cells (hcells (zeros n)) 103 (0, 0)) := by rw [← hw1]; exact blk_new w _
  clear hw1
  generalize hw2 : w1.alloc (.map #[] 0) = w2
  have s2 : w2.heap.size = w.heap.size + 1 + 1 := by rw [← hw2]; simp [s1]
  have b2 : Below w.heap.size w w2 := by rw [← hw2]; exact below_alloc b1 _
  have k2 : w2.heap[w.heap.size]? = some (.cells (hcells (zeros n)) 103 (0, 0)) := by rw [← hw2]; exact blk_alloc k1 _
  have m2 : MapAt w2 (w.heap.size + 1) [] := by rw [← hw2, ← s1]; exact MapAt.made w1
  clear hw2
  obtain ⟨O, hO⟩ : ∃ O : Obj, O = .cells #[.slice (some ⟨w.heap.size, 0, none⟩) n n, .slice none 0 0, .map (some (w.heap.size + 1))] 78 := ⟨_, rfl⟩
  rw [← hO]
  generalize hw3 : w2.alloc O = w3
  have b3 : Below w.heap.size w w3 := by rw [← hw3]; exact below_alloc b2 _
  have k3 : w3.heap[w.heap.size]? = some (.cells (hcells (zeros n)) 103 (0, 0)) := by rw [← hw3]; exact blk_alloc k2 _
  have m3 : MapAt w3 (w.heap.size + 1) [] := by rw [← hw3]; exact m2.below (Below.alloc (Below.refl _ _) (Nat.le_refl _) _)
  have p3 : w3.heap[w.heap.size + 1 + 1]? = some O := by rw [← hw3, ← s2]; exact blk_new w2 _
  have z3 : w3.heap.size = w.heap.size + 1 + 1 + 1 := by rw [← hw3]; simp [s2]
  clear hw3
  rw [hO] at p3
  go_ret2
  refine ⟨w.heap.size + 1 + 1, rfl, foot (w.heap.size + 1 + 1) w.heap.size (w.heap.size + 1) (.slice none 0 0), ⟨w.heap.size, w.heap.size + 1, .slice none 0 0, ⟨by rw [zeros_len]; exact p3, k3, Kd.R_nil _ _ _ _ _, ⟨[], m3, fun _ => rfl⟩, ⟨by omega, by omega, by omega⟩, by rw [zeros_len]; exact hn, by simp, fun x hx => by simp at hx⟩, rfl⟩, ?_⟩
  refine (Mv.of_below (F := fun _ => False) b3).weaken (fun _ h => h.elim) (fun k hk => .inr ?_)
  rcases hk with rfl | rfl | rfl | h
  · omega
  · omega
  · omega
  · cases h
end
end Go.Proofs.Ytniadlnbjgodnaa.Print
