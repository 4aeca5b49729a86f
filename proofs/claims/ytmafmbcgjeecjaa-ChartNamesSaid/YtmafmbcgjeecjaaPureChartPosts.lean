/- Whatever an event is booked as, an account's name and a name's account: the program's answer is the document's. For every input. -/
import Derived.Test.YtmafmbcgjeecjaaStChartPosts
import Derived.Test.YtmafmbcgjeecjaaAid
namespace Go.Proofs.Ytmafmbcgjeecjaa.Print
open Go.RowKit Go.Proofs.YtmafmbcgjeecjaaW.PrintWords Go.Proofs.YtmafmbcgjeecjaaW.PrintLast Go.Proofs.YtmafmbcgjeecjaaW.PrintMore
set_option linter.unusedVariables false
set_option linter.unusedSimpArgs false

theorem rName_at (n : Int) : lombardref17_Name.f n = some (nm n) := rfl
theorem ba_ext {a b : ByteArray} (h : a.toList = b.toList) : a = b := by
  rw [ByteArray.toList_eq, ByteArray.toList_eq] at h
  cases a; cases b
  simp only [ByteArray.mk.injEq]
  exact Array.toList_inj.mp h
theorem beqL (a s : ByteArray) : (a.toList == s.toList) = decide (s = a) := by
  by_cases c : s = a
  · subst c; simp
  · have : a.toList ≠ s.toList := fun e => c (ba_ext e.symm)
    simp [c, this]
theorem Acc_at (s : ByteArray) : chart_Account.f s = some (lombardref17_Account.g s) := by
  unfold chart_Account.f chart_accounts.f chart_account_string.g lombardref17_Account.g
  simp only [Option.bind_some, List.find?_cons, beqL]
  by_cases h1 : s = ⟨#[99, 97, 115, 104]⟩
  · simp [h1]
  by_cases h2 : s = ⟨#[108, 111, 97, 110, 115]⟩
  · simp only [h1, h2, decide_false, decide_true, if_true, if_false]; simp
  by_cases h3 : s = ⟨#[97, 108, 108, 111, 119, 97, 110, 99, 101]⟩
  · simp only [h1, h2, h3, decide_false, decide_true, if_true, if_false]; simp
  by_cases h4 : s = ⟨#[105, 110, 99, 111, 109, 101]⟩
  · simp only [h1, h2, h3, h4, decide_false, decide_true, if_true, if_false]; simp
  by_cases h5 : s = ⟨#[101, 102, 102, 101, 99, 116, 115]⟩
  · simp only [h1, h2, h3, h4, h5, decide_false, decide_true, if_true, if_false]; simp
  by_cases h6 : s = ⟨#[105, 109, 112, 97, 105, 114, 101, 100]⟩
  · simp only [h1, h2, h3, h4, h5, h6, decide_false, decide_true, if_true, if_false]; simp
  by_cases h7 : s = ⟨#[114, 101, 99, 111, 118, 101, 114, 101, 100]⟩
  · simp only [h1, h2, h3, h4, h5, h6, h7, decide_false, decide_true, if_true, if_false]; simp
  simp only [h1, h2, h3, h4, h5, h6, h7, decide_false, if_false]
  rfl
theorem Pure.ChartPosts : ChartPostsPure := by
  intro s wf
  refine ⟨5, ?_⟩
  have hbad : lombardref17_Post.bad s.f0 s.f1 = chart_Post.bad s.f0 s.f1 := rfl
  have hon : lombardref17_Post.on s.f0 = chart_Post.on s.f0 := rfl
  have hag : lombardref17_Post.ag s.f0 = chart_Post.ag s.f0 := rfl
  simp only [lombardlaw17_ChartPosts.f, alive_at, Option.bind_some, if_true, chart_Post.f, lombardref17_Post.f, hbad, hon, hag, Name_at, rName_at, Acc_at, lombardref17_Account.f]
  have key : ∀ (a : List S45) (b : List S48) (e : Int), a.length ≤ 2 → a.map c48 = b → ((lombardlaw17_From.f 5 a).bind fun t137 => (lombardref17_Same.f 5 t137 b)) = some true := by
    intro a b e h1 h2
    rw [From_at _ _ (by omega) (by omega), Option.bind_some, Same_at _ _ _ (by simp; omega) (by simp; omega)]
    simp [h2]
  by_cases c : chart_Post.bad s.f0 s.f1 = true
  · simp only [if_pos c]
    rw [From_at _ _ (by simp) (by simp), Option.bind_some, Same_at _ _ _ (by simp) (by simp)]
    simp
  · simp only [if_neg c]
    by_cases d : s.f1 = 0
    · simp only [if_pos d]
      rw [From_at _ _ (by simp) (by simp), Option.bind_some, Same_at _ _ _ (by simp) (by simp)]
      simp
    · simp only [if_neg d]
      rw [From_at _ _ (by simp) (by simp), Option.bind_some, Same_at _ _ _ (by simp) (by simp)]
      simp [c48]

end Go.Proofs.Ytmafmbcgjeecjaa.Print
