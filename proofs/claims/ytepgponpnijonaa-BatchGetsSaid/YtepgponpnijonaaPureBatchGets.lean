/- The batch of any bytes, or the error, is the document's; the bytes stay. For every row of bytes. -/
import Derived.Test.YtepgponpnijonaaStBatchGets
import Derived.Test.YtepgponpnijonaaAidJ
namespace Go.Proofs.Ytepgponpnijonaa.Print
open Go.RowKit Go.Proofs.YtepgponpnijonaaW.PrintWords Go.Proofs.YtepgponpnijonaaW.PrintLast Go.Proofs.YtepgponpnijonaaW.PrintMore
set_option linter.unusedVariables false
set_option linter.unusedSimpArgs false

theorem getS_len (b : List Nat) (hb : ∀ x ∈ b, x < 256) : (getS b).2.2.1.length ≤ 255 := by
  rcases getS_or b with ⟨e, _, h⟩ | ⟨_, _, h, _⟩
  · rw [h]; simp
  · rw [h]
    show (parseN _ _).length ≤ 255
    rw [parseN_len]
    have := getD_lt hb 10
    omega
theorem Pure.BatchGets : BatchGetsPure := by
  intro x wx
  obtain ⟨b, rfl, hbl, hb⟩ := ints_of x (bytes_wf wx.2)
  refine ⟨60000, ?_⟩
  unfold lombardlaw18_BatchGets.f
  rw [alive_at _ (by omega), Option.bind_some, if_pos rfl, ints_len]
  by_cases c : (b.length : Int) > 3000
  · rw [if_pos c]
  have hgl := getS_len b hb
  rw [if_neg c, Option.bind_some, if_pos (by rw [List.length_nil]; omega), List.nil_append, Option.bind_some, Get_at _ b hb (by omega) (by omega), Option.bind_some, rGet_at _ b hb (by omega) (by omega), Option.bind_some]
  unfold lombardlaw18_From.f
  rw [From_at _ _ (by omega) (by omega), Option.bind_some, Option.bind_some]
  unfold convG
  dsimp only
  rw [Same18_at _ _ _ _ _ _ _ (by rw [List.length_map]; omega) (by rw [List.length_map]; omega), Option.bind_some, if_pos (by simp), if_pos rfl, Bytes_at _ _ _ (by rw [ints_len]; omega) (by rw [ints_len]; omega)]
  simp

end Go.Proofs.Ytepgponpnijonaa.Print
