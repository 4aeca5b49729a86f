/- What was synced lasts: rows of answers and marks, and what a step leaves. -/
import Derived.Test.YtpfkjjaohmdnjaaProg
import Derived.Below
import Derived.Deep.Draws
import Derived.Deep.AppendLies
import Derived.Maps.AppendAt
import Derived.OwnWalk
import Derived.Laws.BytesArg
import Derived.Laws.MakeOwn
import Derived.Laws.OwnMore
import Derived.Deep.OwnRows
import Derived.Tactics
import Derived.Lib.ConvBytes
import Derived.Laws.Slices
import Derived.WalkKit
import Derived.KernelRfl
import Derived.RowKit3
import Derived.Deep.LoopGhost
import Derived.Deep.QuietTactic
import Derived.BigQuiet
import Derived.WideLaws
import Derived.Deep.DeepCutAuto
import Derived.Deep.CutBlock
import Derived.Deep.RegionHeld3
import Derived.Laws.Rows
import Derived.Lib.AppendStr
import Derived.ArgAppend
import Derived.Laws.IdiomCopy
import Derived.OrdersHeld
import Derived.Laws.BitsLemmas
import Derived.RowKit
import Derived.LoopN
import Derived.Handy
import Derived.Laws.EntriesVeiled
import Derived.MapKept
import Derived.Laws.Externs
import Derived.ChangeKeysEq
import Derived.Deep.WholeRow
import Derived.Test.YtpfkjjaohmdnjaaWWords
import Derived.Test.YtpfkjjaohmdnjaaWLast
import Derived.Test.YtpfkjjaohmdnjaaWTab
import Derived.Test.YtpfkjjaohmdnjaaWFour
import Derived.Test.YtpfkjjaohmdnjaaWQPut
import Derived.Test.YtpfkjjaohmdnjaaWApart
import Derived.Test.YtpfkjjaohmdnjaaWArr
import Derived.Test.YtpfkjjaohmdnjaaWZeros
import Derived.Test.YtpfkjjaohmdnjaaWFoot
import Derived.Test.YtpfkjjaohmdnjaaWKept
import Derived.Test.YtpfkjjaohmdnjaaWShare
import Derived.Test.YtpfkjjaohmdnjaaWN
import Derived.Test.YtpfkjjaohmdnjaaWFootNe
import Derived.Test.YtpfkjjaohmdnjaaWAt
import Derived.Test.YtpfkjjaohmdnjaaWEqStruct
import Derived.Test.YtpfkjjaohmdnjaaWRepsOne
import Derived.Test.YtpfkjjaohmdnjaaWInv
import Derived.Test.YtpfkjjaohmdnjaaWInvWords
import Derived.Test.YtpfkjjaohmdnjaaWGuard
import Derived.Test.YtpfkjjaohmdnjaaWNEv
import Derived.Test.YtpfkjjaohmdnjaaWMore
import Derived.Test.YtpfkjjaohmdnjaaBlkA
import Derived.Test.YtpfkjjaohmdnjaaBlkP
import Derived.Test.YtpfkjjaohmdnjaaBlkR
import Derived.Test.YtpfkjjaohmdnjaaBlkT
import Derived.Test.YtpfkjjaohmdnjaaBlkU
namespace Go.Proofs.Ytpfkjjaohmdnjaa.Print
open Go.RowKit Go.Proofs.YtpfkjjaohmdnjaaW.PrintWords Go.Proofs.YtpfkjjaohmdnjaaW.PrintLast Go.Proofs.YtpfkjjaohmdnjaaW.PrintMore
attribute [local go_sem] max2_int min2_int max_two min_two max_three min_three max_four min_four
set_option linter.unusedVariables false
set_option linter.unusedSimpArgs false
section
def ecells (es : List Int) : Array Value := (es.map (Value.int .i64)).toArray
def bcells (bs : List Bool) : Array Value := (bs.map Value.bool).toArray
theorem ecells_set (es : List Int) (i : Nat) (x : Int) : (ecells es).setIfInBounds i (.int .i64 x) = ecells (es.set i x) := by simp [ecells, List.map_set]
theorem bcells_set (bs : List Bool) (i : Nat) (x : Bool) : (bcells bs).setIfInBounds i (.bool x) = bcells (bs.set i x) := by simp [bcells, List.map_set]
theorem ecells_at (es : List Int) (i : Nat) (h : i < es.length) : (ecells es)[i]? = some (.int .i64 (es.getD i 0)) := by simp [ecells, List.getD, h]
theorem bcells_at (bs : List Bool) (i : Nat) (h : i < bs.length) : (bcells bs)[i]? = some (.bool (bs.getD i true)) := by simp [bcells, List.getD, h]
def err0 : List Int := List.replicate 30 0
def ag0 : List Bool := List.replicate 30 false
theorem err0_len : err0.length = 30 := List.length_replicate
theorem ag0_len : ag0.length = 30 := List.length_replicate
theorem et_zero (w : World) : (zeroValue 54).run Try.prog w = .ok (.agg (ecells err0)) w := by kernel_rfl
theorem bt_zero (w : World) : (zeroValue 55).run Try.prog w = .ok (.agg (bcells ag0)) w := by kernel_rfl
variable {L L0 : List (Bk × Bool)} {W : List (Int × Bk)}
def Lasts (L0 : List (Bk × Bool)) (ag : List Bool) (L : List (Bk × Bool)) (W : List (Int × Bk)) : Prop := ∀ a : Nat, a < 30 → ag.getD a true = false → L[a]? = L0[a]? ∧ lastOf W (a : Int) = none
theorem Lasts.start (L0 : List (Bk × Bool)) (ag : List Bool) : Lasts L0 ag L0 [] := fun _ _ _ => ⟨rfl, rfl⟩
theorem Lasts.setl {ag : List Bool} (h : Lasts L0 ag L W) (hW : ∀ x ∈ W, 0 ≤ x.1 ∧ x.1 < L.length) (f : Nat → Int) : Lasts L0 ag (setl f 0 W L) [] := fun a ha hg => by
  obtain ⟨h1, h2⟩ := h a ha hg
  refine ⟨?_, rfl⟩
  rw [setl_far f a W 0 L (fun x hx => ⟨(hW x hx).1, lastOf_none h2 x hx⟩), h1]
theorem Lasts.step {ag : List Bool} (h : Lasts L0 ag L W) (hW : ∀ x ∈ W, 0 ≤ x.1 ∧ x.1 < L.length) (k a : Int) (bs fs : List Int) (hn : ¬ (k = 1 ∧ doC L W k a = 0)) : Lasts L0 ag (doL L W k fs) (doW L W k a bs) := by
  by_cases h1 : k = 1
  · subst h1
    have hd : ¬ wrc L W a = 0 := fun e => hn ⟨rfl, by rw [doC, if_pos rfl]; exact e⟩
    rw [doL, if_neg (by decide), if_neg (by decide), doW, if_pos rfl, wrW, if_neg hd]
    exact h
  · by_cases h2 : k = 2
    · subst h2
      exact h.setl hW _
    · by_cases h3 : k = 3
      · subst h3
        exact h.setl hW _
      · rw [doL, if_neg h2, if_neg h3, doW, if_neg h1, if_neg h2, if_neg h3]
        exact h
theorem Lasts.put {ag : List Bool} (h : Lasts L0 ag L W) (q : Nat) (hal : ag.length = 30) (hq : q < 30) (bs fs : List Int) (hd : doC L W 1 (q : Int) = 0) : Lasts L0 (ag.set q true) (doL L W 1 fs) (doW L W 1 (q : Int) bs) := by
  have hd' : wrc L W q = 0 := by rwa [doC, if_pos rfl] at hd
  rw [doL, if_neg (by decide), if_neg (by decide), doW, if_pos rfl, wrW, if_pos hd']
  intro a ha hg
  by_cases e : a = q
  · subst e
    simp [List.getD, hal, hq] at hg
  · have hg' : ag.getD a true = false := by simpa [List.getD, List.getElem?_set_ne (Ne.symm e)] using hg
    obtain ⟨h1, h2⟩ := h a ha hg'
    exact ⟨h1, by rw [lastOf_snoc, if_neg (by omega)]; exact h2⟩
theorem rd_same {L : List (Bk × Bool)} (a : Nat) (h : L[a]? = L0[a]?) (hl : L.length = L0.length) : rd L [] (a : Int) = rd L0 [] (a : Int) := by
  unfold rd
  rw [hl]
  simp only [Int.toNat_natCast, List.getD, h]
  rfl
theorem ones_fate (n : Nat) (j : Nat) (h : j < n) : fateOf (List.replicate n (1 : Int)) j = 1 := by
  rw [fateOf, if_pos (by simpa using h)]
  simp [List.getD, h]
theorem ones_setl (W : List (Int × Bk)) (L : List (Bk × Bool)) : setl (fateOf (List.replicate W.length 1)) 0 W L = setl (fun _ => 1) 0 W L := setl_congr _ _ W 0 L (fun j _ h => ones_fate _ j (by omega))
theorem was_next {L : List (Bk × Bool)} {want : List Bk} {es : List Int} {j : Nat} {b : Bk} {c : Int} (hj : j < 30) (hwl : want.length = 30) (hel : es.length = 30) (h : ∀ a : Nat, a < j → rd L [] a = (want.getD a Bk.z, es.getD a 0)) (e : rd L [] (j : Int) = (b, c)) : ∀ a : Nat, a < j + 1 → rd L [] a = ((want.set j b).getD a Bk.z, (es.set j c).getD a 0) := by
  intro a ha
  by_cases e2 : a = j
  · subst e2
    rw [e]
    simp [List.getD, hwl, hel, hj]
  · rw [h a (by omega)]
    simp [List.getD, List.getElem?_set_ne (Ne.symm e2)]
theorem all_in : ∀ x ∈ ([] : List (Int × Bk)), 0 ≤ x.1 ∧ x.1 < (0 : Int) := fun _ h => absurd h (by simp)
end
end Go.Proofs.Ytpfkjjaohmdnjaa.Print
