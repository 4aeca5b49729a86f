/- Whether any flows may be, what two are together, their total, their parts, are the document's; they stay. For every two rows of flows and every day. -/
import Derived.Test.YtpolkjmdkeengaaStFlowMerges
import Derived.Test.YtpolkjmdkeengaaAid3
namespace Go.Proofs.Ytpolkjmdkeengaa.Print
open Go.RowKit Go.Proofs.YtpolkjmdkeengaaW.PrintWords Go.Proofs.YtpolkjmdkeengaaW.PrintLast Go.Proofs.YtpolkjmdkeengaaW.PrintMore
set_option linter.unusedVariables false
set_option linter.unusedSimpArgs false

theorem fm_l0 (x0 : List S40) (x8 : List S39) (x9 x16 x17 : Int) (x13 : List S39) (h0 : x0.length ≤ 700) (h8 : x8.length ≤ 700) (h13 : x13.length ≤ 700) (m : Nat) (hm : m ≤ 700) : ∀ n (i k : Nat) (x12 : List S39), m - i = n → i ≤ m → x12.length = m → n + 10000 < k →
    lombardlaw07_FlowMerges.l0 k x0 (x0.map c39) x8 x9 (x8.map c40) x9 x12 x13 (x12.map c40) (x13.map c40) x16 x17 x16 x17 (m : Int) (i : Int) = some true := by
  intro n
  induction n with
  | zero =>
    intro i k x12 hn hi hx hk
    obtain ⟨k, rfl⟩ : ∃ j, k = j + 1 := ⟨k - 1, by omega⟩
    obtain rfl : i = m := by omega
    simp only [lombardlaw07_FlowMerges.l0]
    rw [if_neg (by omega), from_at _ _ (by omega) (by omega), Option.bind_some, Same_at _ _ _ (by simp; omega) (by simp; omega), Option.bind_some]
    simp only [decide_true, if_true]
    rw [from_at _ _ (by omega) (by omega), Option.bind_some, Same_at _ _ _ (by simp; omega) (by simp; omega), Option.bind_some]
    simp only [decide_true, if_true]
    rw [from_at _ _ (by omega) (by omega), Option.bind_some, Same_at _ _ _ (by simp; omega) (by simp; omega), Option.bind_some]
    simp only [decide_true, if_true]
    rw [check_at, Option.bind_some, rcheck_at _ _ (by omega) (by omega), Option.bind_some]
    simp only [if_true]
    rw [from_at _ _ (by simp; omega) (by simp; omega), Option.bind_some, c4039, Same_at _ _ _ (by omega) (by omega)]
    simp
  | succ n ih =>
    intro i k x12 hn hi hx hk
    obtain ⟨k, rfl⟩ : ∃ j, k = j + 1 := ⟨k - 1, by omega⟩
    have hlt : i < x12.length := by omega
    have ew : wrap64 ((i : Int) + 1) = ((i + 1 : Nat) : Int) := by unfold wrap64; omega
    simp only [lombardlaw07_FlowMerges.l0]
    rw [if_pos (by omega), if_pos (by omega), if_pos (by omega), if_pos (by simp; omega), rd39 x12 i hlt, rd40 (x12.map c40) i (by simpa using hlt), ew, Int.toNat_natCast]
    have hs : (x12.map c40).set i ⟨((x12.map c40)[i]'(by simpa using hlt)).f0, wrap64 (((x12.map c40)[i]'(by simpa using hlt)).f1 + 1)⟩ = (x12.set i ⟨(x12[i]).f0, wrap64 ((x12[i]).f1 + 1)⟩).map c40 := by
      rw [List.map_set, List.getElem_map]; rfl
    rw [hs]
    exact ih (i + 1) k _ (by omega) (by omega) (by simpa using hx) (by omega)
theorem map_filter (f : Int → Bool) (l : List S40) : (l.map c39).filter (fun x => f x.f0) = (l.filter (fun x => f x.f0)).map c39 := by
  rw [List.filter_map]; rfl
theorem Pure.FlowMerges : FlowMergesPure := by
  intro l0 l1 d w0 w1 wd
  refine ⟨2000000, ?_⟩
  unfold lombardlaw07_FlowMerges.f
  rw [show (2000000 : Nat) = 1999996 + 4 from rfl, alive_at, Option.bind_some, if_pos rfl]
  have e : ∀ b : Bool, b = true → lombardlaw07_FlowMerges.j0 (1999996 + 4) l0 l1 d b = some true := fun b hb => by
    subst hb; rw [lombardlaw07_FlowMerges.j0, if_pos rfl]
  by_cases c0 : (l0.length : Int) > 700
  · rw [if_pos c0]; exact e _ rfl
  rw [if_neg c0]
  by_cases c1 : (l1.length : Int) > 700
  · exact e _ (decide_eq_true c1)
  rw [decide_eq_false c1]
  have hin0 : ∀ x ∈ l0, inr x.f1 := fun x hx => by
    have := (w0.2 x hx).2
    have := wf_i64 this
    exact this
  have hin1 : ∀ x ∈ l0.map c39, inr x.f1 := fun x hx => by
    obtain ⟨y, hy, rfl⟩ := List.mem_map.1 hx
    exact hin0 y hy
  rw [lombardlaw07_FlowMerges.j0, if_neg (by decide), to_at _ _ (by omega) (by omega), Option.bind_some, to_at _ _ (by omega) (by omega), Option.bind_some]
  show ((some (G (l0.map c39) (l1.map c39))).bind fun bt371 => _) = _
  rw [Option.bind_some, merge_ref, Option.bind_some, parted_at _ _ _ (by simp; omega) (by simp; omega), Option.bind_some, rparted_at _ _ _ (by omega) (by omega), Option.bind_some, total_at _ (by simp; omega) hin1, Option.bind_some, rtotal_at _ _ (by omega) hin0 (by omega), Option.bind_some]
  have hsum : (l0.map c39).map (·.f1) = l0.map (·.f1) := by rw [List.map_map]; rfl
  have hg := G_len (l0.map c39) (l1.map c39)
  have f1 := map_filter (fun n => decide (n ≤ d)) l0
  have f2 := map_filter (fun n => !decide (n ≤ d)) l0
  have g1 : l0.filter (fun x => decide (x.f0 ≤ d)) = ((l0.filter (fun x => decide (x.f0 ≤ d))).map c39).map c40 := (c4039 _).symm
  have g2 : l0.filter (fun x => !decide (x.f0 ≤ d)) = ((l0.filter (fun x => !decide (x.f0 ≤ d))).map c39).map c40 := (c4039 _).symm
  have n1 := List.length_filter_le (fun x : S40 => decide (x.f0 ≤ d)) l0
  have n2 := List.length_filter_le (fun x : S40 => !decide (x.f0 ≤ d)) l0
  rw [hsum, f1, f2]
  have := fm_l0 l0 (G (l0.map c39) (l1.map c39)).1 (G (l0.map c39) (l1.map c39)).2 (told (l0.map (·.f1)).sum).1 (told (l0.map (·.f1)).sum).2 ((l0.filter (fun x => !decide (x.f0 ≤ d))).map c39) (by omega) (by omega) (by simp; omega) ((l0.filter (fun x => decide (x.f0 ≤ d))).map c39).length (by simp; omega) ((l0.filter (fun x => decide (x.f0 ≤ d))).map c39).length 0 1999999 ((l0.filter (fun x => decide (x.f0 ≤ d))).map c39) (by omega) (Nat.zero_le _) rfl (by simp; omega)
  rw [← g1, ← g2] at this
  exact this

end Go.Proofs.Ytpolkjmdkeengaa.Print
