/- A batch has 15 bytes and 9 for each line; two that aren't the same haven't the same bytes. For any two batches. -/
import Derived.Test.YtepgponpnijonaaStBatchSizes
import Derived.Test.YtepgponpnijonaaPureBatchPuts
namespace Go.Proofs.Ytepgponpnijonaa.Print
open Go.RowKit Go.Proofs.YtepgponpnijonaaW.PrintWords Go.Proofs.YtepgponpnijonaaW.PrintLast Go.Proofs.YtepgponpnijonaaW.PrintMore
set_option linter.unusedVariables false
set_option linter.unusedSimpArgs false

theorem ints_inj {a b : List Nat} (h : ints a = ints b) : a = b := by
  have := congrArg (List.map Int.toNat) h
  unfold ints at this
  rw [List.map_map, List.map_map] at this
  have e : Int.toNat ∘ (fun n : Nat => (n : Int)) = id := by funext n; simp
  rw [e, List.map_id, List.map_id] at this
  exact this
theorem c45_inj {a b : List S59} (h : a.map c45 = b.map c45) : a = b := by
  have := congrArg (List.map c48) h
  rw [back48, back48] at this
  exact this
theorem putS_ok {a b : Int} {l : List S53} (h : (putS a b l).2 = 0) : bchk a b l = 0 ∧ (putS a b l).1 = ints (putN (u64N a) (u64N b) l) := by
  unfold putS at h ⊢
  by_cases c : bchk a b l = 0
  · rw [if_pos c]; exact ⟨c, rfl⟩
  · rw [if_neg c] at h; exact absurd h c
theorem sizes_j1 (k : Nat) (hk : 50000 ≤ k) (p q : Int × Int × List S59) (b : Bool) (x y : List Int) (h : b = false → p.2.2.length ≤ 300 ∧ bchk p.1 p.2.1 (p.2.2.map c45) = 0 ∧ bchk q.1 q.2.1 (q.2.2.map c45) = 0 ∧ x = ints (putN (u64N p.1) (u64N p.2.1) (p.2.2.map c45)) ∧ y = ints (putN (u64N q.1) (u64N q.2.1) (q.2.2.map c45))) :
    lombardlaw18_BatchSizes.j1 (k + 1) x y b p.1 p.2.1 p.2.2 q.1 q.2.1 q.2.2 = some true := by
  rw [lombardlaw18_BatchSizes.j1]
  cases b with
  | true => rw [if_pos rfl]
  | false =>
    obtain ⟨h1, h2, h3, rfl, rfl⟩ := h rfl
    have hl := bchk_len h2
    rw [List.length_map] at hl
    have hlen : (ints (putN (u64N p.1) (u64N p.2.1) (p.2.2.map c45))).length = 15 + 9 * p.2.2.length := by rw [ints_len, putN_len, List.length_map]
    rw [if_neg (by decide), w64 (x := 9 * (p.2.2.length : Int)) (by omega) (by omega), w64 (x := 15 + 9 * (p.2.2.length : Int)) (by omega) (by omega), if_pos (by omega), Bytes_at _ _ _ (by omega) (by omega), Option.bind_some, Same18_at _ _ _ _ _ _ _ (by omega) (by omega), Option.bind_some]
    have key : (ints (putN (u64N p.1) (u64N p.2.1) (p.2.2.map c45)) = ints (putN (u64N q.1) (u64N q.2.1) (q.2.2.map c45))) ↔ (p.1 = q.1 ∧ p.2.1 = q.2.1 ∧ p.2.2 = q.2.2) := by
      constructor
      · intro e
        have e2 := congrArg getS (ints_inj e)
        rw [get_put _ _ _ h2, get_put _ _ _ h3] at e2
        simp only [Prod.mk.injEq] at e2
        exact ⟨e2.1, e2.2.1, c45_inj e2.2.2.1⟩
      · rintro ⟨e1, e2, e3⟩
        rw [e1, e2, e3]
    have key' : decide (ints (putN (u64N p.1) (u64N p.2.1) (p.2.2.map c45)) = ints (putN (u64N q.1) (u64N q.2.1) (q.2.2.map c45))) = decide (p.1 = q.1 ∧ p.2.1 = q.2.1 ∧ p.2.2 = q.2.2) := decide_eq_decide.mpr key
    rw [key']
    simp
theorem sizes_j0 (k : Nat) (hk : 60000 ≤ k) (p q : Int × Int × List S59) (b : Bool) (h : b = false → p.2.2.length ≤ 300 ∧ q.2.2.length ≤ 300) :
    lombardlaw18_BatchSizes.j0 (k + 2) b p.1 p.2.1 p.2.2 q.1 q.2.1 q.2.2 = some true := by
  rw [lombardlaw18_BatchSizes.j0]
  cases b with
  | true => rw [if_pos rfl]
  | false =>
    obtain ⟨h1, h2⟩ := h rfl
    rw [if_neg (by decide), To18_at _ _ _ _ (by omega) (by omega), Option.bind_some]
    dsimp only
    rw [Put_at _ _ _ _ (by omega), Option.bind_some, To18_at _ _ _ _ (by omega) (by omega), Option.bind_some]
    dsimp only
    rw [Put_at _ _ _ _ (by omega), Option.bind_some]
    by_cases c : (putS p.1 p.2.1 (p.2.2.map c45)).2 = 0
    · rw [if_pos c]
      refine sizes_j1 k (by omega) p q _ _ _ (fun hb => ?_)
      have d : (putS q.1 q.2.1 (q.2.2.map c45)).2 = 0 := by simpa using hb
      exact ⟨h1, (putS_ok c).1, (putS_ok d).1, (putS_ok c).2, (putS_ok d).2⟩
    · rw [if_neg c]
      exact sizes_j1 k (by omega) p q _ _ _ (fun hb => by cases hb)
theorem Pure.BatchSizes : BatchSizesPure := by
  intro s t ws wt
  refine ⟨60002, ?_⟩
  unfold lombardlaw18_BatchSizes.f
  rw [alive_at _ (by omega), Option.bind_some, if_pos rfl]
  by_cases c : (s.f2.length : Int) > 300
  · rw [if_pos c]
    exact sizes_j0 60000 (by omega) (s.f0, s.f1, s.f2) (t.f0, t.f1, t.f2) true (fun h => by cases h)
  · rw [if_neg c]
    refine sizes_j0 60000 (by omega) (s.f0, s.f1, s.f2) (t.f0, t.f1, t.f2) _ (fun h => ⟨by dsimp only; omega, ?_⟩)
    have := of_decide_eq_false h
    dsimp only; omega

end Go.Proofs.Ytepgponpnijonaa.Print
