import Derived.Test.YtjnhlglamiegbaaPrint5
import Derived.Test.YtjnhlglamiegbaaPrint6
import Derived.Test.YtjnhlglamiegbaaOpen
namespace Go.Proofs.Ytjnhlglamiegbaa.Print
open Go.RowKit Go.Proofs.YtjnhlglamiegbaaW.PrintWords Go.Proofs.YtjnhlglamiegbaaW.PrintLast Go.Proofs.YtjnhlglamiegbaaW.PrintMore

theorem w64 {x : Int} (h0 : -9223372036854775808 ≤ x) (h1 : x ≤ 9223372036854775807) : wrap64 x = x := by unfold wrap64; omega

/-- The stage that a mark alone tells. -/
def worst (p d : Int) (b : Bool) : Int := if b = true then 3 else if 90 ≤ p then 3 else if 30 ≤ p then 2 else if 3 ≤ d then 2 else 1
theorem worst_pos (p d : Int) (b : Bool) : 1 ≤ worst p d b ∧ worst p d b ≤ 3 := by unfold worst; repeat' split <;> omega
/-- May a state and a mark be? -/
def may (s g p d : Int) : Prop := 0 ≤ p ∧ p ≤ 10000 ∧ -100 ≤ d ∧ d ≤ 100 ∧ 1 ≤ s ∧ s ≤ 3 ∧ 0 ≤ g ∧ g ≤ 2 ∧ (s = 1 → g = 0)
instance (s g p d : Int) : Decidable (may s g p d) := by unfold may; infer_instance
def nextS (s g p d : Int) (b : Bool) : Int × Int × Int :=
  if may s g p d then (if s ≤ worst p d b then (worst p d b, 0, 0) else if g = 2 then (s - 1, 0, 0) else (s, g + 1, 0)) else (0, 0, 2)

theorem next_bad (k : Nat) (s g p d : Int) (b : Bool) : stage_Next.j0 (k + 1) true s g p d b = some (0, 0, 2) := by simp [stage_Next.j0]
theorem next_good (k : Nat) (s g p d : Int) (b : Bool) (h : may s g p d) : stage_Next.j0 (k + 1) false s g p d b = some (nextS s g p d b) := by
  obtain ⟨_, _, _, _, _, _, _, _, _⟩ := h
  have w1 : wrap64 (g + 1) = g + 1 := w64 (by omega) (by omega)
  have w2 : wrap64 (s - 1) = s - 1 := w64 (by omega) (by omega)
  have hm : may s g p d := ⟨by assumption, by assumption, by assumption, by assumption, by assumption, by assumption, by assumption, by assumption, by assumption⟩
  have e : (g + 1 = 3) ↔ g = 2 := by omega
  simp only [stage_Next.j0, stage_Worst.f, nextS, if_pos hm, w1, w2, e, Option.bind_some]
  rw [if_neg (by simp)]
  change (if worst p d b ≥ s then _ else _) = _
  by_cases c : s ≤ worst p d b
  · rw [if_pos c, if_pos c]; rfl
  · rw [if_neg c, if_neg c]; split <;> rfl
theorem next_at (k : Nat) (s g p d : Int) (b : Bool) : stage_Next.f (k + 1) s g p d b = some (nextS s g p d b) := by
  by_cases hm : may s g p d
  · have hm' := hm
    obtain ⟨h1, h2, h3, h4, h5, h6, h7, h8, h9⟩ := hm
    simp only [stage_Next.f, stage_within.f, ge_iff_le, h1, h2, h3, h4, h5, h6, h7, h8, if_true, decide_true, Option.bind_some]
    have e : (if (s == 1) = true then stage_Next.j0 (k + 1) (decide (g > 0)) s g p d b else stage_Next.j0 (k + 1) false s g p d b) = stage_Next.j0 (k + 1) false s g p d b := by
      split
      · rename_i c
        have : s = 1 := by simpa using c
        have := h9 this
        subst this
        rfl
      · rfl
    rw [e]
    exact next_good k s g p d b hm'
  · have e : nextS s g p d b = (0, 0, 2) := by unfold nextS; rw [if_neg hm]
    rw [e]
    unfold may at hm
    simp only [stage_Next.f, stage_within.f]
    by_cases a1 : p ≥ 0 <;> by_cases a2 : p ≤ 10000 <;> by_cases a3 : d ≥ -100 <;> by_cases a4 : d ≤ 100 <;> by_cases a5 : s ≥ 1 <;> by_cases a6 : s ≤ 3 <;> by_cases a7 : g ≥ 0 <;> by_cases a8 : g ≤ 2 <;> simp only [a1, a2, a3, a4, a5, a6, a7, a8, if_true, if_false, decide_true, decide_false, Option.bind_some, next_bad, Bool.false_eq_true]
    have a9 : s = 1 ∧ g > 0 := by
      refine ⟨?_, ?_⟩
      · apply Classical.byContradiction; intro c; exact hm ⟨a1, a2, a3, a4, a5, a6, a7, a8, fun z => absurd z c⟩
      · apply Classical.byContradiction; intro c; exact hm ⟨a1, a2, a3, a4, a5, a6, a7, a8, fun _ => by omega⟩
    obtain ⟨rfl, a9⟩ := a9
    simp only [a9, decide_true, beq_self_eq_true, if_true, next_bad]
theorem rworst_at (k : Nat) (p d : Int) (b : Bool) : lombardref14_Worst.f (k + 1) p d b = some (worst p d b) := by
  simp only [lombardref14_Worst.f, lombardref14_Worst.j0, worst]
  by_cases a : 90 ≤ p <;> by_cases c : 30 ≤ p <;> by_cases e : 3 ≤ d <;> cases b <;> simp [a, c, e]
theorem rnext_at (k : Nat) (s g p d : Int) (b : Bool) : lombardref14_Next.f (k + 2) s g p d b = some (nextS s g p d b) := by
  have hb : lombardref14_Next.j0 (k + 2) true s g p d b = some (0, 0, 2) := by simp [lombardref14_Next.j0]
  by_cases hm : may s g p d
  · have hm' := hm
    obtain ⟨h1, h2, h3, h4, h5, h6, h7, h8, h9⟩ := hm
    unfold lombardref14_Next.f
    rw [if_neg (by omega), if_neg (by omega), if_neg (by omega), if_neg (by omega), if_neg (by omega), if_neg (by omega), if_neg (by omega), if_neg (by omega)]
    have e : (if s = 1 then lombardref14_Next.j0 (k + 2) (g != 0) s g p d b else lombardref14_Next.j0 (k + 2) false s g p d b) = lombardref14_Next.j0 (k + 2) false s g p d b := by
      split
      · rename_i c
        have := h9 c
        subst this
        rfl
      · rfl
    rw [e]
    have w1 : wrap64 (g + 1) = g + 1 := w64 (by omega) (by omega)
    have w2 : wrap64 (s - 1) = s - 1 := w64 (by omega) (by omega)
    simp only [lombardref14_Next.j0, rworst_at, nextS, if_pos hm', w1, w2, Option.bind_some]
    rw [if_neg (by simp)]
    by_cases c : s ≤ worst p d b
    · rw [if_pos c, if_pos c]
    · rw [if_neg c, if_neg c]; split <;> rfl
  · have e : nextS s g p d b = (0, 0, 2) := by unfold nextS; rw [if_neg hm]
    rw [e]
    unfold may at hm
    unfold lombardref14_Next.f
    simp only [hb]
    split; · rfl
    split; · rfl
    split; · rfl
    split; · rfl
    split; · rfl
    split; · rfl
    split; · rfl
    split; · rfl
    split
    · have a9 : g ≠ 0 := by intro c; exact hm ⟨by omega, by omega, by omega, by omega, by omega, by omega, by omega, by omega, by omega⟩
      rw [show (g != 0) = true from by simpa using a9, hb]
    · exact absurd ⟨by omega, by omega, by omega, by omega, by omega, by omega, by omega, by omega, by omega⟩ hm

theorem alive_at : lombardlaw14_alive.f 20 = some true := by decide +kernel
end Go.Proofs.Ytjnhlglamiegbaa.Print
