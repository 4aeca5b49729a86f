/- StageWorse: a mark that is worse leads to no better a stage; marks ahead of one that tells 3 say nothing: for every state, mark, and rows of marks (up to 100 each: beyond that the law asks alive() alone). -/
import Derived.Test.YtjnhlglamiegbaaStStageWorse
import Derived.Test.YtjnhlglamiegbaaPureStageMoves
namespace Go.Proofs.Ytjnhlglamiegbaa.Print
open Go.RowKit Go.Proofs.YtjnhlglamiegbaaW.PrintWords Go.Proofs.YtjnhlglamiegbaaW.PrintLast Go.Proofs.YtjnhlglamiegbaaW.PrintMore
set_option linter.unusedVariables false

theorem worst_mono {p d p' d' : Int} {b b' : Bool} (h1 : p ≤ p') (h2 : d ≤ d') (h3 : b = true → b' = true) : worst p d b ≤ worst p' d' b' := by
  unfold worst
  by_cases c : b = true
  · rw [if_pos c, if_pos (h3 c)]; exact Int.le_refl _
  · rw [if_neg c]
    by_cases c' : b' = true
    · rw [if_pos c']; repeat' split <;> omega
    · rw [if_neg c']
      repeat' split <;> omega
theorem step_mono {s g W W' : Int} (h : W ≤ W') : (stepN s g W).1 ≤ (stepN s g W').1 := by
  unfold stepN
  by_cases c : s ≤ W
  · rw [if_pos c, if_pos (by omega)]; exact h
  · rw [if_neg c]
    by_cases c' : s ≤ W'
    · rw [if_pos c']; split <;> simp <;> omega
    · rw [if_neg c']; exact Int.le_refl _
theorem next_mono {s g p d p' d' : Int} {b b' : Bool} (h1 : p ≤ p') (h2 : d ≤ d') (h3 : b = true → b' = true) (n1 : (nextS s g p d b).2.2 = 0) (n2 : (nextS s g p' d' b').2.2 = 0) :
    ¬ (nextS s g p' d' b').1 < (nextS s g p d b).1 := by
  rw [next_step (next_ok n1), next_step (next_ok n2)]
  have := step_mono (s := s) (g := g) (worst_mono h1 h2 h3)
  omega
theorem add_byte {p x : Int} (h0 : 0 ≤ x) (h1 : x ≤ 255) : wrap64 x = x := w64 (by omega) (by omega)
theorem runL_app (a b : List Mk) : ∀ s g, (runL s g (a ++ b)).2 = 0 → 1 ≤ s → s ≤ 3 → 0 ≤ g → g ≤ 2 → (s = 1 → g = 0) →
    ∃ la s' g', (runL s g (a ++ b)).1 = la ++ (runL s' g' b).1 ∧ la.length = a.length ∧ (runL s' g' b).2 = 0 ∧ 1 ≤ s' ∧ s' ≤ 3 ∧ 0 ≤ g' ∧ g' ≤ 2 ∧ (s' = 1 → g' = 0) := by
  induction a with
  | nil => intro s g h a1 a2 a3 a4 a5; exact ⟨[], s, g, rfl, rfl, h, a1, a2, a3, a4, a5⟩
  | cons m t ih =>
    intro s g h a1 a2 a3 a4 a5
    rw [List.cons_append, runL] at h ⊢
    obtain ⟨n0, r0, e0⟩ := runK_ok h
    have hm := next_ok n0
    have ww := worst_pos m.1 m.2.1 m.2.2
    rw [e0]
    clear e0 h n0
    rw [next_step hm] at r0 ⊢
    obtain ⟨b1, b2, b3, b4⟩ := step_in a1 a2 a3 a4 ww.1 ww.2
    have b5 : (stepN s g (worst m.1 m.2.1 m.2.2)).1 = 1 → (stepN s g (worst m.1 m.2.1 m.2.2)).2.1 = 0 := by
      generalize worst m.1 m.2.1 m.2.2 = W at ww ⊢
      unfold stepN
      split
      · simp
      · split
        · simp
        · simp; omega
    obtain ⟨la, s', g', e, hl, r⟩ := ih _ _ r0 b1 b2 b3 b4 b5
    exact ⟨_ :: la, s', g', by rw [e]; rfl, by simp [hl], r⟩
def badM : Mk := (0, 0, true)
theorem bad_next {s g : Int} (a1 : 1 ≤ s) (a2 : s ≤ 3) (a3 : 0 ≤ g) (a4 : g ≤ 2) (a5 : s = 1 → g = 0) : nextS s g 0 0 true = (3, 0, 0) := by
  have hm : may s g 0 0 := ⟨by omega, by omega, by omega, by omega, a1, a2, a3, a4, a5⟩
  rw [next_step hm]
  have : worst 0 0 true = 3 := rfl
  rw [this]
  unfold stepN
  rw [if_pos a2]
theorem runL_bad {s g : Int} (b : List Mk) (a1 : 1 ≤ s) (a2 : s ≤ 3) (a3 : 0 ≤ g) (a4 : g ≤ 2) (a5 : s = 1 → g = 0) : runL s g (badM :: b) = runK (3, 0, 0) (runL 3 0 b) := by
  rw [runL]
  have : nextS s g badM.1 badM.2.1 badM.2.2 = (3, 0, 0) := bad_next a1 a2 a3 a4 a5
  rw [this]

theorem worse_j2 (l k : List S25) (hl : l.length ≤ 100) (hk : k.length ≤ 100) (n : Nat) (hn : 1000 ≤ n) : lombardlaw14_StageWorse.j2 n l k false = some true := by
  obtain ⟨n, rfl⟩ : ∃ m, n = m + 1 := ⟨n - 1, by omega⟩
  rw [lombardlaw14_StageWorse.j2, if_neg (by simp)]
  simp only [Option.bind_some]
  rw [if_pos (by simp; omega), if_pos (by simp; omega), if_pos (by simp; omega)]
  rw [to_at _ (by simp; omega) _ (by simp; omega)]
  simp only [Option.bind_some]
  rw [run_at _ (by simp; omega) _ (by simp; omega), mk_conv]
  simp only [Option.bind_some]
  rw [if_pos (by simp; omega)]
  rw [to_at _ (by simp; omega) _ (by simp; omega)]
  simp only [Option.bind_some]
  rw [run_at _ (by simp; omega) _ (by simp; omega), mk_conv]
  simp only [Option.bind_some]
  have e1 : ([] ++ l ++ [(⟨0, 0, true⟩ : S25)] ++ k).map mk25 = l.map mk25 ++ badM :: k.map mk25 := by simp [mk25, badM]
  have e2 : ([(⟨0, 0, true⟩ : S25)] ++ k).map mk25 = badM :: k.map mk25 := by simp [mk25, badM]
  rw [e1, e2]
  have f1 : runAll (l.map mk25 ++ badM :: k.map mk25) = fin [] (runL 1 0 (l.map mk25 ++ badM :: k.map mk25)) := by unfold runAll; rw [if_neg (by simp; omega)]
  have f2 : runAll (badM :: k.map mk25) = fin [] (runL 1 0 (badM :: k.map mk25)) := by unfold runAll; rw [if_neg (by simp; omega)]
  rw [f1, f2]
  by_cases c : (runL 1 0 (l.map mk25 ++ badM :: k.map mk25)).2 = 0
  · obtain ⟨la, s', g', e, hla, r0, b1, b2, b3, b4, b5⟩ := runL_app (l.map mk25) (badM :: k.map mk25) 1 0 c (by omega) (by omega) (by omega) (by omega) (by omega)
    have g1 : fin [] (runL 1 0 (l.map mk25 ++ badM :: k.map mk25)) = (la ++ (runL s' g' (badM :: k.map mk25)).1, 0) := by unfold fin; rw [if_pos c, e]; rfl
    have same : runL 1 0 (badM :: k.map mk25) = runL s' g' (badM :: k.map mk25) := by
      rw [runL_bad _ b1 b2 b3 b4 b5, runL_bad _ (by omega) (by omega) (by omega) (by omega) (by omega)]
    have g2 : fin [] (runL 1 0 (badM :: k.map mk25)) = ((runL s' g' (badM :: k.map mk25)).1, 0) := by rw [same]; unfold fin; rw [if_pos r0]; rfl
    rw [g1, g2]
    have hlen := (runL_len (badM :: k.map mk25) s' g').1
    have hlen' : (runL s' g' (badM :: k.map mk25)).1.length ≤ 101 := by simp at hlen; omega
    rw [List.length_map] at hla
    generalize (runL s' g' (badM :: k.map mk25)).1 = q at hlen' ⊢
    dsimp only
    rw [if_pos rfl, if_pos rfl, if_pos (by omega), if_pos (by simp; omega)]
    have ed : (la ++ q).drop ((l.length : Int)).toNat = q := by rw [Int.toNat_natCast, ← hla]; exact List.drop_left
    rw [ed, ints_same q (by omega) n (by omega)]
    rfl
  · have g1 : fin [] (runL 1 0 (l.map mk25 ++ badM :: k.map mk25)) = ([], (runL 1 0 (l.map mk25 ++ badM :: k.map mk25)).2) := by unfold fin; rw [if_neg c]
    rw [g1]
    dsimp only
    rw [if_neg c]

theorem Pure.StageWorse : StageWorsePure := by
  intro o ho
  obtain ⟨⟨s, g⟩, ⟨p, d, b⟩, past, down, l, k⟩ := o
  obtain ⟨-, ⟨wp, wd, -⟩, wpa, wdo, -, -⟩ := ho
  have hpa := wf_u8 wpa
  have hdo := wf_u8 wdo
  have hp := wf_i64 wp
  have hd := wf_i64 wd
  dsimp only at hpa hdo hp hd
  refine ⟨2000, ?_⟩
  dsimp only
  unfold lombardlaw14_StageWorse.f
  rw [alive_any _ (by omega)]
  simp only [Option.bind_some, if_true]
  by_cases c1 : (l.length : Int) > 100
  · rw [if_pos c1, lombardlaw14_StageWorse.j0, if_pos rfl]
  rw [if_neg c1, lombardlaw14_StageWorse.j0]
  by_cases c2 : (k.length : Int) > 100
  · rw [if_pos (by simpa using c2)]
  rw [if_neg (by simpa using c2)]
  have core : ∀ b', (b = true → b' = true) → lombardlaw14_StageWorse.j1 1999 l k s g p d b (wrap64 (p + wrap64 past)) (wrap64 (d + wrap64 down)) b' = some true := by
    intro b' hb'
    rw [lombardlaw14_StageWorse.j1, next_any _ (by omega)]
    simp only [Option.bind_some]
    rw [next_any _ (by omega)]
    simp only [Option.bind_some]
    have hj := worse_j2 l k (by omega) (by omega) 1998 (by omega)
    by_cases n1 : (nextS s g p d b).2.2 = 0
    · rw [if_pos n1]
      by_cases n2 : (nextS s g (wrap64 (p + wrap64 past)) (wrap64 (d + wrap64 down)) b').2.2 = 0
      · rw [if_pos n2]
        obtain ⟨m1, m2, m3, m4, _⟩ := next_ok n1
        have x1 : wrap64 (p + wrap64 past) = p + past := by rw [add_byte (p := 0) hpa.1 hpa.2]; exact w64 (by omega) (by omega)
        have x2 : wrap64 (d + wrap64 down) = d + down := by rw [add_byte (p := 0) hdo.1 hdo.2]; exact w64 (by omega) (by omega)
        rw [x1, x2] at n2 ⊢
        have := next_mono (by omega) (by omega) hb' n1 n2
        rw [decide_eq_false this]
        exact hj
      · rw [if_neg n2]; exact hj
    · rw [if_neg n1]; exact hj
  by_cases cb : b = true
  · rw [if_pos cb]; exact core true (fun _ => rfl)
  · rw [if_neg cb]; exact core _ (fun h => absurd h cb)
end Go.Proofs.Ytjnhlglamiegbaa.Print
