/- Whether any batch may be, its bytes, and any bytes' check sum: the program's answers are the document's. For every batch and every row of bytes. -/
import Derived.Test.YtepgponpnijonaaStBatchPuts
import Derived.Test.YtepgponpnijonaaAidI
import Derived.Test.YtepgponpnijonaaAidK
namespace Go.Proofs.Ytepgponpnijonaa.Print
open Go.RowKit Go.Proofs.YtepgponpnijonaaW.PrintWords Go.Proofs.YtepgponpnijonaaW.PrintLast Go.Proofs.YtepgponpnijonaaW.PrintMore
set_option linter.unusedVariables false
set_option linter.unusedSimpArgs false

theorem To18_at (k : Nat) (a b : Int) (l : List S59) (hl : l.length ≤ 8796093022208) (hk : l.length < k) : lombardlaw18_To.f k a b l = some (a, b, l.map c45) := by
  unfold lombardlaw18_To.f
  rw [To_at k l hl hk]; rfl
theorem putS_len (a b : Int) (l : List S53) : (putS a b l).1.length ≤ 1000 := by
  unfold putS
  by_cases c : bchk a b l = 0
  · have := bchk_len c
    rw [if_pos c]
    show (ints _).length ≤ 1000
    rw [ints_len, putN_len]; omega
  · rw [if_neg c]; simp
theorem bytes_wf {l : List Int} (h : ∀ s_ ∈ l, (fun n_ : Int => (Lit.int .u8 n_).wf = true) s_) : ∀ x ∈ l, 0 ≤ x ∧ x < 256 := by
  intro x hx
  have := wf_u8 (h x hx)
  omega
theorem puts_j0 (k : Nat) (hk : 50000 ≤ k) (x : List Int) (seq ev : Int) (l : List S59) (b : Bool) (h : b = false → l.length ≤ 300 ∧ x.length ≤ 3000 ∧ ∀ y ∈ x, 0 ≤ y ∧ y < 256) : lombardlaw18_BatchPuts.j0 (k + 1) x b seq ev l = some true := by
  rw [lombardlaw18_BatchPuts.j0]
  cases b with
  | true => rw [if_pos rfl]
  | false =>
    obtain ⟨h1, h2, h3⟩ := h rfl
    obtain ⟨y, rfl, hyl, hyb⟩ := ints_of x h3
    have hp := putS_len seq ev (l.map c45)
    rw [if_neg (by decide), To18_at _ _ _ _ (by omega) (by omega), Option.bind_some]
    dsimp only
    rw [Put_at _ _ _ _ (by omega), Option.bind_some, rPut_at _ _ _ _ (by omega), Option.bind_some, Bytes_at _ _ _ (by omega) (by omega), Option.bind_some]
    simp only [decide_true, if_true]
    rw [Option.bind_some]
    dsimp only
    rw [bCheck_at _ _ _ _ (by omega), Option.bind_some, r18Check_at _ _ _ _ (by omega), Option.bind_some, if_pos rfl, Sum_at y hyb (by omega), Option.bind_some, rSum_at _ y (by omega) hyb (by omega), Option.bind_some]
    simp
theorem Pure.BatchPuts : BatchPutsPure := by
  intro s x ws wx
  refine ⟨60001, ?_⟩
  unfold lombardlaw18_BatchPuts.f
  rw [alive_at _ (by omega), Option.bind_some, if_pos rfl]
  by_cases c : (s.f2.length : Int) > 300
  · rw [if_pos c]
    exact puts_j0 60000 (by omega) _ _ _ _ _ (fun h => by cases h)
  · rw [if_neg c]
    refine puts_j0 60000 (by omega) _ _ _ _ _ (fun h => ⟨by omega, ?_, bytes_wf wx.2⟩)
    have := of_decide_eq_false h
    omega

end Go.Proofs.Ytepgponpnijonaa.Print
