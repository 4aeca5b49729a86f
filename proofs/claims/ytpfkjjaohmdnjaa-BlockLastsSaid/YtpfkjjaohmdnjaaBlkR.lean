/- What reads give behind writes, syncs and crashes; rows of blocks. -/
import Derived.Test.YtpfkjjaohmdnjaaProg
import Derived.Below
import Derived.Deep.Draws
import Derived.Deep.AppendLies
import Derived.Maps.AppendAt
import Derived.OwnWalk
import Derived.Laws.BytesArg
import Derived.Laws.MakeOwn
import Derived.Laws.OwnMore
import Derived.Deep.OwnRows
import Derived.Tactics
import Derived.Lib.ConvBytes
import Derived.Laws.Slices
import Derived.WalkKit
import Derived.KernelRfl
import Derived.RowKit3
import Derived.Deep.LoopGhost
import Derived.Deep.QuietTactic
import Derived.BigQuiet
import Derived.WideLaws
import Derived.Deep.DeepCutAuto
import Derived.Deep.CutBlock
import Derived.Deep.RegionHeld3
import Derived.Laws.Rows
import Derived.Lib.AppendStr
import Derived.ArgAppend
import Derived.Laws.IdiomCopy
import Derived.OrdersHeld
import Derived.Laws.BitsLemmas
import Derived.RowKit
import Derived.LoopN
import Derived.Handy
import Derived.Laws.EntriesVeiled
import Derived.MapKept
import Derived.Laws.Externs
import Derived.ChangeKeysEq
import Derived.Deep.WholeRow
import Derived.Test.YtpfkjjaohmdnjaaWWords
import Derived.Test.YtpfkjjaohmdnjaaWLast
import Derived.Test.YtpfkjjaohmdnjaaWTab
import Derived.Test.YtpfkjjaohmdnjaaWFour
import Derived.Test.YtpfkjjaohmdnjaaWQPut
import Derived.Test.YtpfkjjaohmdnjaaWApart
import Derived.Test.YtpfkjjaohmdnjaaWArr
import Derived.Test.YtpfkjjaohmdnjaaWZeros
import Derived.Test.YtpfkjjaohmdnjaaWFoot
import Derived.Test.YtpfkjjaohmdnjaaWKept
import Derived.Test.YtpfkjjaohmdnjaaWShare
import Derived.Test.YtpfkjjaohmdnjaaWN
import Derived.Test.YtpfkjjaohmdnjaaWFootNe
import Derived.Test.YtpfkjjaohmdnjaaWAt
import Derived.Test.YtpfkjjaohmdnjaaWEqStruct
import Derived.Test.YtpfkjjaohmdnjaaWRepsOne
import Derived.Test.YtpfkjjaohmdnjaaWInv
import Derived.Test.YtpfkjjaohmdnjaaWInvWords
import Derived.Test.YtpfkjjaohmdnjaaWGuard
import Derived.Test.YtpfkjjaohmdnjaaWNEv
import Derived.Test.YtpfkjjaohmdnjaaWMore
import Derived.Test.YtpfkjjaohmdnjaaBlkA
namespace Go.Proofs.Ytpfkjjaohmdnjaa.Print
open Go.RowKit Go.Proofs.YtpfkjjaohmdnjaaW.PrintWords Go.Proofs.YtpfkjjaohmdnjaaW.PrintLast Go.Proofs.YtpfkjjaohmdnjaaW.PrintMore
attribute [local go_sem] max2_int min2_int max_two min_two max_three min_three max_four min_four
set_option linter.unusedVariables false
set_option linter.unusedSimpArgs false
section
def wcells (want : List Bk) : Array Value := (want.flatMap Bk.cs).toArray
theorem wcells_size (want : List Bk) : (wcells want).size = want.length * 64 := by rw [wcells, List.size_toArray, flat_len Bk.len]
theorem wcells_all (want : List Bk) : (wcells want).all (·.oneCell') = true := by
  rw [Array.all_eq_true_iff_forall_mem]
  intro x hx
  have : x ∈ want.flatMap Bk.cs := by simpa [wcells] using hx
  obtain ⟨b, _, hb⟩ := List.mem_flatMap.1 this
  exact b.one x hb
theorem wcells_at (want : List Bk) (i j : Nat) (hi : i < want.length) (hj : j < 64) : (wcells want)[i * 64 + j]? = want[i].cs[j]? := by
  rw [wcells, List.getElem?_toArray, flat_get Bk.len want i j hi hj]
theorem wcells_set (want : List Bk) (i : Nat) (hi : i < want.length) (b : Bk) : ((wcells want).toList.take (i * 64) ++ b.cs ++ (wcells want).toList.drop (i * 64 + 64)).toArray = wcells (want.set i b) := by
  rw [wcells, wcells]
  exact congrArg List.toArray (flat_set Bk.len want i hi b)
theorem wcells_slice (want : List Bk) (i : Nat) (hi : i < want.length) : ((wcells want).toList.drop (i * 64)).take 64 = want[i].cs := by
  rw [wcells]
  show ((want.flatMap Bk.cs).drop (i * 64)).take 64 = _
  rw [← flat_drop Bk.len want i (by omega), List.drop_eq_getElem_cons hi, List.flatMap_cons, List.take_append_of_le_length (by rw [Bk.len]; omega), List.take_of_length_le (by rw [Bk.len]; omega)]
theorem wt_und : Try.prog.underlying 53 = some (.array 30 45) := by kernel_rfl
theorem wt_info : (Try.prog.info? 53).map (·.size) = some 1920 := by kernel_rfl
theorem wt_zero (w : World) : (zeroValue 53).run Try.prog w = .ok (.agg (wcells (List.replicate 30 Bk.z))) w := by kernel_rfl
theorem bk_agg (w : World) : (isAgg 45).run Try.prog w = .ok true w := by kernel_rfl
theorem run_index_w (W : World) (want : List Bk) (hw : want.length = 30) (i : Nat) (hi : i < 30) : (Instr.index 53 (.agg (wcells want)) (.int .i64 (i : Int))).run Try.prog W = .ok (want[i]'(by omega)).v W := by
  have hs : (sizeOf 45).run Try.prog W = .ok 64 W := by kernel_rfl
  have h0 : (0 : Int) ≤ (i : Int) ∧ (i : Int) < ((30 : Nat) : Int) := ⟨by omega, by omega⟩
  have hsl := wcells_slice want i (by omega)
  simp only [Instr.index, asIntOf, Sem.run_bind, Sem.run_pure, Result.andThen_ok, run_underlying wt_und, if_pos h0, hs, Int.toNat_natCast, part, bk_agg, if_true]
  congr 1
  rw [Bk.v, ← hsl]
  congr 1
  apply Array.ext'
  simp [Array.toList_extract, List.extract_eq_take_drop]
theorem rd_cons (L : List (Bk × Bool)) (x : Int × Bk) (W : List (Int × Bk)) (hx : 0 ≤ x.1 ∧ x.1 < L.length) (k : Int) : rd L (x :: W) k = rd (put1 L x 1) W k := by
  have hl : lastOf (x :: W) k = match lastOf W k with | some b => some b | none => if x.1 = k then some x.2 else none := by
    unfold lastOf
    rw [List.reverse_cons, List.find?_append]
    cases hf : W.reverse.find? (fun y => y.1 == k) with
    | some y => simp
    | none =>
      simp only [Option.none_or, List.find?_singleton]
      by_cases e : x.1 = k
      · simp [e]
      · simp [e]
  unfold rd
  rw [put1_len, hl]
  by_cases hk : 0 ≤ k ∧ k < L.length
  · rw [if_pos hk, if_pos hk]
    cases lastOf W k with
    | some b => rfl
    | none =>
      simp only [put1, if_true]
      by_cases e : x.1 = k
      · subst e
        have hi : x.1.toNat < L.length := by omega
        simp [List.getD, hi]
      · have hne : x.1.toNat ≠ k.toNat := by omega
        rw [if_neg e]
        simp only [List.getD, List.getElem?_set_ne hne]
        rfl
  · rw [if_neg hk, if_neg hk]
theorem rd_sync : ∀ (W : List (Int × Bk)) (i : Nat) (L : List (Bk × Bool)), (∀ x ∈ W, 0 ≤ x.1 ∧ x.1 < L.length) → ∀ k, rd (setl (fun _ => 1) i W L) [] k = rd L W k
  | [], _, _, _, _ => rfl
  | x :: W, i, L, h, k => by
    rw [rd_cons L x W (h x List.mem_cons_self), setl]
    exact rd_sync W (i + 1) (put1 L x 1) (fun y hy => by rw [put1_len]; exact h y (List.mem_cons_of_mem _ hy)) k
theorem rd_write (L : List (Bk × Bool)) (W : List (Int × Bk)) (a : Int) (b : Bk) (h : wrc L W a = 0) (k : Int) : rd L (wrW L W a b) k = if k = a then (b, 0) else rd L W k := by
  have hin : 0 ≤ a ∧ a < L.length := by
    apply Decidable.byContradiction
    intro hn
    rw [wrc, if_neg hn] at h
    cases h
  rw [wrW, if_pos h]
  unfold rd
  rw [lastOf_snoc]
  by_cases e : k = a
  · subst e
    rw [if_pos hin, if_pos rfl, if_pos rfl]
  · rw [if_neg e, if_neg e]
theorem setl_congr (f g : Nat → Int) : ∀ (W : List (Int × Bk)) (i : Nat) (L : List (Bk × Bool)), (∀ j, i ≤ j → j < i + W.length → f j = g j) → setl f i W L = setl g i W L
  | [], _, _, _ => rfl
  | x :: W, i, L, h => by
    rw [setl, setl, h i (Nat.le_refl _) (by simp), setl_congr f g W (i + 1) _ (fun j h1 h2 => h j (by omega) (by simp; omega))]
theorem fateOf_nil (i : Nat) : fateOf [] i = 0 := by simp [fateOf]
theorem setl_nil : ∀ (W : List (Int × Bk)) (i : Nat) (L : List (Bk × Bool)), setl (fateOf []) i W L = L
  | [], _, _ => rfl
  | x :: W, i, L => by rw [setl, fateOf_nil, put1, if_neg (by decide), if_neg (by decide), setl_nil W]
/-- What isn't written again stays. -/
theorem setl_far (f : Nat → Int) (k : Nat) : ∀ (W : List (Int × Bk)) (i : Nat) (L : List (Bk × Bool)), (∀ x ∈ W, 0 ≤ x.1 ∧ x.1 ≠ k) → (setl f i W L)[k]? = L[k]?
  | [], _, _, _ => rfl
  | x :: W, i, L, h => by
    rw [setl, setl_far f k W (i + 1) _ (fun y hy => h y (List.mem_cons_of_mem _ hy))]
    have := h x List.mem_cons_self
    have hne : x.1.toNat ≠ k := by omega
    unfold put1
    split
    · exact List.getElem?_set_ne hne
    · split
      · exact List.getElem?_set_ne hne
      · rfl
theorem lastOf_none {W : List (Int × Bk)} {k : Int} (h : lastOf W k = none) : ∀ x ∈ W, x.1 ≠ k := by
  intro x hx e
  unfold lastOf at h
  rw [Option.map_eq_none_iff, List.find?_eq_none] at h
  exact h x (List.mem_reverse.2 hx) (by simpa using e)
end
end Go.Proofs.Ytpfkjjaohmdnjaa.Print
