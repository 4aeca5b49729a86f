/- StageMoves: a stage is never better than its mark tells, unless it was so; gets better by one, behind three marks in a row that are better than it; worse at once: for every row of marks (up to 300: beyond that the law asks alive() alone). -/
import Derived.Test.YtjnhlglamiegbaaStStageMoves
import Derived.Test.YtjnhlglamiegbaaAid2
namespace Go.Proofs.Ytjnhlglamiegbaa.Print
open Go.RowKit Go.Proofs.YtjnhlglamiegbaaW.PrintWords Go.Proofs.YtjnhlglamiegbaaW.PrintLast Go.Proofs.YtjnhlglamiegbaaW.PrintMore

set_option linter.unusedVariables false
theorem next_ok {s g p d : Int} {b : Bool} (h : (nextS s g p d b).2.2 = 0) : may s g p d := by
  apply Classical.byContradiction
  intro c
  unfold nextS at h
  rw [if_neg c] at h
  simp at h
theorem runK_ok {N : Int × Int × Int} {r : List Int × Int} (h : (runK N r).2 = 0) : N.2.2 = 0 ∧ r.2 = 0 ∧ (runK N r).1 = N.1 :: r.1 := by
  unfold runK at h ⊢
  by_cases c : N.2.2 = 0
  · rw [if_pos c] at h ⊢
    by_cases e : r.2 = 0
    · rw [if_pos e]; exact ⟨c, e, rfl⟩
    · rw [if_neg e] at h; exact absurd h e
  · rw [if_neg c] at h; exact absurd h c
def stepN (s g W : Int) : Int × Int × Int := if s ≤ W then (W, 0, 0) else if g = 2 then (s - 1, 0, 0) else (s, g + 1, 0)
theorem next_step {s g p d : Int} {b : Bool} (h : may s g p d) : nextS s g p d b = stepN s g (worst p d b) := by unfold nextS stepN; rw [if_pos h]
theorem step_in {s g W : Int} (h1 : 1 ≤ s) (h3 : s ≤ 3) (g0 : 0 ≤ g) (g2 : g ≤ 2) (w1 : 1 ≤ W) (w3 : W ≤ 3) : 1 ≤ (stepN s g W).1 ∧ (stepN s g W).1 ≤ 3 ∧ 0 ≤ (stepN s g W).2.1 ∧ (stepN s g W).2.1 ≤ 2 := by
  unfold stepN
  split
  · simp; omega
  · split
    · simp; omega
    · simp; omega
theorem moves_step (l : List S25) (all : List Int) (k i : Nat) (s g W : Int) (x : S25) (hl : l.length ≤ 1000000) (ha : all.length = l.length) (hi : i < l.length) (hx : rd_T25 l (i : Int) = x) (hW : stage_Worst.f x.f0 x.f1 x.f2 = some W)
    (h1 : 1 ≤ s) (h3 : s ≤ 3) (g0 : 0 ≤ g) (g2 : g ≤ 2) (w1 : 1 ≤ W) (w3 : W ≤ 3) (ea : rd all (i : Int) = (stepN s g W).1) :
    lombardlaw14_StageMoves.l0 (k + 1 + 1) l all s g all (all.length : Int) (i : Int) = lombardlaw14_StageMoves.l0 k l all (stepN s g W).1 (stepN s g W).2.1 all (all.length : Int) ((i + 1 : Nat) : Int) := by
  have hw : wrap64 ((i : Int) + 1) = ((i + 1 : Nat) : Int) := wr1 hi hl
  have q1 : (i : Int) < (all.length : Int) := by omega
  have q2 : (0 : Int) ≤ (i : Int) := by omega
  have q3 : (i : Int) < (l.length : Int) := by omega
  have hg1 : wrap64 (g + 1) = g + 1 := w64 (by omega) (by omega)
  have hs1 : wrap64 (s - 1) = s - 1 := w64 (by omega) (by omega)
  rw [lombardlaw14_StageMoves.l0, if_pos q1, if_pos q2, if_pos q1, if_pos q3, hx, hW, ea]
  simp only [Option.bind_some]
  rw [lombardlaw14_StageMoves.j1, lombardlaw14_StageMoves.j1, hg1, hs1, hw]
  clear hw q1 q2 q3 hg1 hs1 hx hW ea ha hi
  unfold stepN
  by_cases c : s ≤ W
  · rw [if_pos c, if_neg (by omega), if_neg (by omega)]
    dsimp only
    have em : mx s W = W := by unfold mx; omega
    rw [em, if_pos rfl, if_neg (by omega)]
  · rw [if_neg c, if_pos (by omega)]
    by_cases e : g = 2
    · rw [if_pos e, if_pos (by omega)]
      dsimp only
      rw [if_pos rfl, if_neg (by omega)]
    · rw [if_neg e, if_neg (by omega)]
      dsimp only
      have em : mx s W = s := by unfold mx; omega
      rw [em, if_pos rfl, if_neg (by omega)]
theorem moves_l0 (l : List S25) (all : List Int) (hl : l.length ≤ 1000000) (ha : all.length = l.length) (d : Nat) : ∀ (k i : Nat) (s g : Int), i + d = l.length → 2 * d + 1 ≤ k → 1 ≤ s → s ≤ 3 → 0 ≤ g → g ≤ 2 →
    (runL s g ((l.drop i).map mk25)).2 = 0 → all.drop i = (runL s g ((l.drop i).map mk25)).1 →
    lombardlaw14_StageMoves.l0 k l all s g all (all.length : Int) (i : Int) = some true := by
  induction d with
  | zero =>
    intro k i s g hi hk _ _ _ _ _ _
    obtain ⟨k, rfl⟩ : ∃ m, k = m + 1 := ⟨k - 1, by omega⟩
    rw [lombardlaw14_StageMoves.l0, if_neg (by omega), ha]; simp
  | succ d ih =>
    intro k i s g hi hk h1 h3 g0 g2
    obtain ⟨k, rfl⟩ : ∃ m, k = m + 1 + 1 := ⟨k - 2, by omega⟩
    have hlt : i < l.length := by omega
    have hlt' : i < all.length := by omega
    have hk' : 2 * d + 1 ≤ k := by omega
    have hi' : i + 1 + d = l.length := by omega
    clear hi hk
    intro hr he
    rw [drop_cons l z25 i hlt, List.map_cons, runL] at hr he
    obtain ⟨n0, r0, e0⟩ := runK_ok hr
    rw [e0, drop_cons all 0 i hlt'] at he
    obtain ⟨ea, et⟩ := List.cons.inj he
    have hm := next_ok n0
    rw [next_step hm] at ea et r0
    have ww := worst_pos (mk25 (l.getD i z25)).1 (mk25 (l.getD i z25)).2.1 (mk25 (l.getD i z25)).2.2
    obtain ⟨a1, a2, a3, a4⟩ := step_in h1 h3 g0 g2 ww.1 ww.2
    rw [moves_step l all k i s g (worst (mk25 (l.getD i z25)).1 (mk25 (l.getD i z25)).2.1 (mk25 (l.getD i z25)).2.2) (l.getD i z25) hl ha hlt (by simp [rd_T25]) rfl h1 h3 g0 g2 ww.1 ww.2 (by rw [← ea]; simp [rd])]
    exact ih k (i + 1) _ _ hi' hk' a1 a2 a3 a4 r0 et

theorem Pure.StageMoves : StageMovesPure := by
  intro l _
  refine ⟨2000, ?_⟩
  unfold lombardlaw14_StageMoves.f
  rw [alive_any _ (by omega)]
  simp only [Option.bind_some, if_true]
  by_cases c : (l.length : Int) > 300
  · rw [if_pos c]
  · rw [if_neg c]
    have hl : l.length ≤ 300 := by omega
    rw [to_at l (by omega) _ (by omega)]
    simp only [Option.bind_some]
    rw [run_at _ (by simp; omega) _ (by simp; omega), mk_conv]
    simp only [Option.bind_some]
    have hA : runAll (l.map mk25) = fin [] (runL 1 0 (l.map mk25)) := by unfold runAll; rw [if_neg (by simp; omega)]
    rw [hA]
    by_cases e : (runL 1 0 (l.map mk25)).2 = 0
    · have hf : fin [] (runL 1 0 (l.map mk25)) = ((runL 1 0 (l.map mk25)).1, 0) := by unfold fin; rw [if_pos e]; simp
      rw [hf, if_pos rfl]
      have hlen := (runL_len (l.map mk25) 1 0).2 e
      rw [List.length_map] at hlen
      exact moves_l0 l _ (by omega) hlen l.length 2000 0 1 0 (by omega) (by omega) (by omega) (by omega) (by omega) (by omega) (by simpa using e) (by simp)
    · have hf : fin [] (runL 1 0 (l.map mk25)) = ([], (runL 1 0 (l.map mk25)).2) := by unfold fin; rw [if_neg e]
      rw [hf, if_neg e]; rfl
end Go.Proofs.Ytjnhlglamiegbaa.Print
