/- A crash that takes one block: pure laws. -/
import Derived.Test.YtniadlnbjgodnaaProg
import Derived.Below
import Derived.Deep.Draws
import Derived.Deep.AppendLies
import Derived.Maps.AppendAt
import Derived.OwnWalk
import Derived.Laws.BytesArg
import Derived.Laws.MakeOwn
import Derived.Laws.OwnMore
import Derived.Deep.OwnRows
import Derived.Tactics
import Derived.Lib.ConvBytes
import Derived.Laws.Slices
import Derived.WalkKit
import Derived.KernelRfl
import Derived.RowKit3
import Derived.Deep.LoopGhost
import Derived.Deep.QuietTactic
import Derived.BigQuiet
import Derived.WideLaws
import Derived.Deep.DeepCutAuto
import Derived.Deep.CutBlock
import Derived.Deep.RegionHeld3
import Derived.Laws.Rows
import Derived.Lib.AppendStr
import Derived.ArgAppend
import Derived.Laws.IdiomCopy
import Derived.OrdersHeld
import Derived.Laws.BitsLemmas
import Derived.RowKit
import Derived.LoopN
import Derived.Handy
import Derived.Laws.EntriesVeiled
import Derived.MapKept
import Derived.Laws.Externs
import Derived.ChangeKeysEq
import Derived.Deep.WholeRow
import Derived.Test.YtniadlnbjgodnaaWWords
import Derived.Test.YtniadlnbjgodnaaWLast
import Derived.Test.YtniadlnbjgodnaaWTab
import Derived.Test.YtniadlnbjgodnaaWFour
import Derived.Test.YtniadlnbjgodnaaWQPut
import Derived.Test.YtniadlnbjgodnaaWApart
import Derived.Test.YtniadlnbjgodnaaWArr
import Derived.Test.YtniadlnbjgodnaaWZeros
import Derived.Test.YtniadlnbjgodnaaWFoot
import Derived.Test.YtniadlnbjgodnaaWKept
import Derived.Test.YtniadlnbjgodnaaWShare
import Derived.Test.YtniadlnbjgodnaaWN
import Derived.Test.YtniadlnbjgodnaaWFootNe
import Derived.Test.YtniadlnbjgodnaaWAt
import Derived.Test.YtniadlnbjgodnaaWEqStruct
import Derived.Test.YtniadlnbjgodnaaWRepsOne
import Derived.Test.YtniadlnbjgodnaaWInv
import Derived.Test.YtniadlnbjgodnaaWInvWords
import Derived.Test.YtniadlnbjgodnaaWGuard
import Derived.Test.YtniadlnbjgodnaaWNEv
import Derived.Test.YtniadlnbjgodnaaWMore
import Derived.Test.YtniadlnbjgodnaaBlkA
import Derived.Test.YtniadlnbjgodnaaBlkJ1
import Derived.Test.YtniadlnbjgodnaaBlkJ2
import Derived.Test.YtniadlnbjgodnaaBlkJ3
import Derived.Test.YtniadlnbjgodnaaBlkJ4
import Derived.Test.YtniadlnbjgodnaaBlkJ5
namespace Go.Proofs.Ytniadlnbjgodnaa.Print
open Go.RowKit Go.Proofs.YtniadlnbjgodnaaW.PrintWords Go.Proofs.YtniadlnbjgodnaaW.PrintLast Go.Proofs.YtniadlnbjgodnaaW.PrintMore
attribute [local go_sem] max2_int min2_int max_two min_two max_three min_three max_four min_four
set_option linter.unusedVariables false
set_option linter.unusedSimpArgs false
section
variable {L : List (Bk × Bool)} {W : List (Int × Bk)} {rs : List (List Int)}
/-- With a block of a record lost it is gone, and all behind it. -/
theorem crash_at (hu : usum rs ≤ L.length) (hF : ∀ j : Nat, j < usum rs → rd L [] (j : Int) = (fB rs j, 0) ∨ bd (rd L [] (j : Int))) {i q : Nat} (hi : i < rs.length) (hlow : ∀ j : Nat, j < usum (rs.take i) → rd L [] (j : Int) = (fB rs j, 0)) (hq : q < pn rs[i].length) (hb : bd (rd L [] ((usum (rs.take i) + q : Nat) : Int))) : recs L [] = rs.take i := by
  have ht := usum_take rs i
  have hs := usum_step rs i hi
  have ht2 := usum_take rs (i + 1)
  unfold recs
  refine scan_of (rs.take i) _ 0 1 (fun j hj => ?_) (by have := usum_len (rs.take i); omega) ?_
  · rw [allB_len] at hj
    rw [Nat.zero_add, hlow j hj, fB_at (by rw [allB_len]; exact hj), fB_take (by omega) hj]
  · rw [Nat.zero_add, List.length_take, Nat.min_eq_left (by omega)]
    refine recP_bad (b := rs[i]) (fun m hm => ?_) hq hb
    rcases hF (usum (rs.take i) + m) (by omega) with e | e
    · left
      unfold fAt
      rw [e, fB_rec hi hm]
    · exact .inr e
theorem setl_range (f : Nat → Int) (F : Nat → Bk) (L : List (Bk × Bool)) (j : Nat) : ∀ n, n ≤ L.length → (setl f 0 ((List.range n).map (fun (i : Nat) => ((i : Int), F i))) L)[j]? = if j < n then (if f j = 1 then some (F j, false) else if f j = 2 then some (Bk.z, true) else L[j]?) else L[j]?
  | 0, _ => by simp [setl]
  | n + 1, h => by
    rw [List.range_succ, List.map_append, List.map_singleton, setl_snoc, List.length_map, List.length_range, Nat.zero_add]
    have ih := setl_range f F L j n (by omega)
    have hl : (setl f 0 ((List.range n).map (fun (i : Nat) => ((i : Int), F i))) L).length = L.length := setl_len _ _ _ _
    unfold put1
    simp only [Int.toNat_natCast]
    by_cases e : n = j
    · subst e
      have hlt : n < (setl f 0 ((List.range n).map (fun (i : Nat) => ((i : Int), F i))) L).length := by omega
      rw [if_pos (show n < n + 1 by omega)]
      by_cases c1 : f n = 1
      · rw [if_pos c1, if_pos c1, List.getElem?_set_self hlt]
      · rw [if_neg c1, if_neg c1]
        by_cases c2 : f n = 2
        · rw [if_pos c2, if_pos c2, List.getElem?_set_self hlt]
        · rw [if_neg c2, if_neg c2, ih, if_neg (by omega)]
    · have e2 : (j < n + 1) ↔ (j < n) := by omega
      simp only [e2]
      split
      · rw [List.getElem?_set_ne e, ih]
      · split
        · rw [List.getElem?_set_ne e, ih]
        · rw [ih]
theorem wrL_range (u n : Nat) (b : List Int) (F : Nat → Bk) (m : Nat) (h : ∀ q, q < m → F (u + q) = blk n b q) : (List.range u).map (fun (i : Nat) => ((i : Int), F i)) ++ wrL u n b 0 m = (List.range (u + m)).map (fun (i : Nat) => ((i : Int), F i)) := by
  rw [List.range_add, List.map_append]
  congr 1
  rw [wrL, List.map_map, ← List.range_eq_range']
  apply List.map_congr_left
  intro q hq
  simp only [Function.comp]
  rw [h q (List.mem_range.1 hq)]
/-- The fates: all last but one. -/
def oneF (k : Nat) (x : Int) (n : Nat) : List Int := (List.range n).map (fun i => if i = k then x else 1)
theorem oneF_len (k : Nat) (x : Int) (n : Nat) : (oneF k x n).length = n := by simp [oneF]
theorem oneF_take (k : Nat) (x : Int) (n i : Nat) (h : i ≤ n) : (oneF k x n).take i = oneF k x i := by
  unfold oneF
  rw [← List.map_take, List.take_range, Nat.min_eq_left h]
theorem oneF_snoc (k : Nat) (x : Int) (i : Nat) : oneF k x (i + 1) = oneF k x i ++ [if i = k then x else 1] := by
  unfold oneF
  rw [List.range_succ, List.map_append, List.map_singleton]
theorem fate_one {k n j : Nat} {x : Int} (h : j < n) (hx : x = 0 ∨ x = 2) : fateOf (oneF k x n) j = if j = k then x else 1 := by
  unfold fateOf
  rw [oneF_len, if_pos h]
  have e : (oneF k x n).getD j 0 = if j = k then x else 1 := by simp [oneF, List.getD, h]
  rw [e]
  split
  · rcases hx with rfl | rfl <;> rfl
  · rfl
/-- Two records, one of whose blocks goes, or is torn. -/
theorem parts_crash {a b : List Int} (ha : okR a) (hb : okR b) {n : Nat} (hn : usum [a, b] ≤ n ∧ n ≤ 4096) {k : Nat} (hk : k < usum [a, b]) {x : Int} (hx : x = 0 ∨ x = 2) {W : List (Int × Bk)} (hW : W = (List.range (usum [a, b])).map (fun (i : Nat) => ((i : Int), fB [a, b] i))) :
    ∃ L2, recs (setl (fateOf (oneF k x (usum [a, b]))) 0 W (zeros n)) [] = (if k < pn a.length then [] else [a]) ∧ wipeR (setl (fateOf (oneF k x (usum [a, b]))) 0 W (zeros n)) [] (usum (if k < pn a.length then [] else [a])) = (0, L2, []) := by
  have hus : usum [a, b] = pn a.length + pn b.length := by simp [usum]
  have hlen : (setl (fateOf (oneF k x (usum [a, b]))) 0 W (zeros n)).length = n := by rw [setl_len, zeros_len]
  have hat : ∀ j, j < usum [a, b] → (setl (fateOf (oneF k x (usum [a, b]))) 0 W (zeros n))[j]? = if j = k then some (Bk.z, decide (x = 2)) else some (fB [a, b] j, false) := by
    intro j hj
    rw [hW, setl_range _ _ _ j _ (by rw [zeros_len]; exact hn.1), if_pos hj, fate_one hj hx]
    by_cases e : j = k
    · rw [if_pos e, if_pos e]
      rcases hx with rfl | rfl
      · rw [if_neg (by decide), if_neg (by decide)]
        simp [zeros, show j < n by omega]
      · rw [if_neg (by decide), if_pos rfl]
        rfl
    · rw [if_neg e, if_neg e, if_pos rfl]
  have hgood : ∀ j : Nat, j < usum [a, b] → j ≠ k → rd (setl (fateOf (oneF k x (usum [a, b]))) 0 W (zeros n)) [] (j : Int) = (fB [a, b] j, 0) := fun j hj e => by
    have := hat j hj
    rw [if_neg e] at this
    rw [rd_at this, if_neg (by simp)]
  have hbad : bd (rd (setl (fateOf (oneF k x (usum [a, b]))) 0 W (zeros n)) [] (k : Int)) := by
    have := hat k hk
    rw [if_pos rfl] at this
    rw [rd_at this]
    split
    · exact .inl (by decide)
    · exact .inr rfl
  have hF : ∀ j : Nat, j < usum [a, b] → rd (setl (fateOf (oneF k x (usum [a, b]))) 0 W (zeros n)) [] (j : Int) = (fB [a, b] j, 0) ∨ bd (rd (setl (fateOf (oneF k x (usum [a, b]))) 0 W (zeros n)) [] (j : Int)) := fun j hj => by
    by_cases e : j = k
    · rw [e]; exact .inr hbad
    · exact .inl (hgood j hj e)
  have hok : okS (zeros n) W := ⟨(okS_zeros n).1, fun y hy => by
    rw [hW] at hy
    obtain ⟨i, hi, rfl⟩ := List.mem_map.1 hy
    have hi := List.mem_range.1 hi
    by_cases e : i < pn a.length
    · have := fB_rec (rs := [a, b]) (k := 0) (q := i) (by simp) (by simpa using e)
      simp only [List.take_zero, usum, Nat.zero_add, List.getElem_cons_zero] at this
      simp only
      rw [this]
      exact blk_ok ha (by omega) e
    · have := fB_rec (rs := [a, b]) (k := 1) (q := i - pn a.length) (by simp) (by simp; omega)
      have e2 : usum (List.take 1 [a, b]) + (i - pn a.length) = i := by simp [usum]; omega
      rw [e2] at this
      simp only
      rw [this]
      exact blk_ok hb (by omega) (by simp; omega)⟩
  have hwip : ∀ u, u ≤ n → ∃ L2, wipeR (setl (fateOf (oneF k x (usum [a, b]))) 0 W (zeros n)) [] u = (0, L2, []) := fun u hu => by
    obtain ⟨L2, e, _⟩ := wipe0 (L := setl (fateOf (oneF k x (usum [a, b]))) 0 W (zeros n)) (by rw [hlen]; omega) (u := u) (by rw [hlen]; exact hu) (okS_setl _ _ _ _ hok)
    exact ⟨L2, e⟩
  by_cases c : k < pn a.length
  · obtain ⟨L2, e⟩ := hwip 0 (by omega)
    refine ⟨L2, ?_, by rw [if_pos c]; exact e⟩
    rw [if_pos c]
    exact crash_at (rs := [a, b]) (i := 0) (q := k) (by rw [hlen]; exact hn.1) hF (by simp) (fun j hj => by simp [usum] at hj) (by simpa using c) (by simpa [usum] using hbad)
  · obtain ⟨L2, e⟩ := hwip (usum [a]) (by simp [usum] at *; omega)
    refine ⟨L2, ?_, by rw [if_neg c]; exact e⟩
    rw [if_neg c]
    refine crash_at (rs := [a, b]) (i := 1) (q := k - pn a.length) (by rw [hlen]; exact hn.1) hF (by simp) (fun j hj => ?_) (by simp; omega) ?_
    · have hj : j < pn a.length := by simpa [usum] using hj
      exact hgood j (by omega) (by omega)
    · have e2 : usum (List.take 1 [a, b]) + (k - pn a.length) = k := by simp [usum]; omega
      rw [e2]
      exact hbad
/-! ### a row of bytes of the call's own, beside a store -/
variable {w0 w w' : World} {p gl gm : Nat} {v : Value}
theorem SS.farU {B : Nat} {ok : Nat → Prop} {u : Value} {xs : List Int} (h : SS w0 w p gl gm v L W) (hr : Kd.R (Kd.int .u8) 5 w B ok u xs) {k : Nat} (hk : u.ownBlock = some k) : ¬ foot p gl gm v k := by
  obtain ⟨inner, ho⟩ := Kd.R_own hr
  obtain ⟨cs, hc⟩ := own_typed ho k hk
  exact h.s.far hc (by decide)
theorem SS.grownU {ok : Nat → Prop} {u : Value} {xs : List Int} (h : SS w0 w p gl gm v L W) (hr : Kd.R (Kd.int .u8) 5 w w0.heap.size ok u xs) (hg : w.grownBy w' u.ownBlock) : SS w0 w' p gl gm v L W :=
  ⟨h.s.keep (fun k hk => hg.block k (h.s.lt hk) (fun e => h.farU hr e.symm hk)), h.b.grown hg h.b.size (Kd.R_base hr)⟩
theorem ap_new {n : Nat} (hn : 1 ≤ n ∧ n ≤ 4096) {rs : List (List Int)} {b : List Int} (hb : b.length ≤ 13515) (hf : usum rs + pn b.length ≤ n) : apC (zeros n) rs b = 0 := by
  unfold apC fits
  rw [if_neg (by omega), if_neg]
  rw [zeros_len]
  simp
  omega
end
end Go.Proofs.Ytniadlnbjgodnaa.Print
