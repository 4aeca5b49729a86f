import Derived.Test.YtepgponpnijonaaAidH
import Derived.Test.YtepgponpnijonaaPrint13
namespace Go.Proofs.Ytepgponpnijonaa.Print
open Go.RowKit Go.Proofs.YtepgponpnijonaaW.PrintWords Go.Proofs.YtepgponpnijonaaW.PrintLast Go.Proofs.YtepgponpnijonaaW.PrintMore
set_option linter.unusedVariables false
set_option linter.unusedSimpArgs false

theorem putN_take (s e : Nat) (l : List S53) : (putN s e l).take ((putN s e l).length - 4) = bodyN s e l := by
  rw [putN_len, show 15 + 9 * l.length - 4 = (bodyN s e l).length by rw [bodyN_len]; omega, putN, List.take_left]
theorem putN_drop (s e : Nat) (l : List S53) : (putN s e l).drop ((putN s e l).length - 4) = leb 4 (sumN (bodyN s e l)) := by
  rw [putN_len, show 15 + 9 * l.length - 4 = (bodyN s e l).length by rw [bodyN_len]; omega, putN, List.drop_left]
theorem val_sum (l : List Nat) (h : ∀ x ∈ l, x < 256) : val (leb 4 (sumN l)) = sumN l := by
  rw [val_leb]
  have := sumN_lt l h
  exact Nat.mod_eq_of_lt (by omega)
/-- What is put is got. -/
theorem get_put (seq ev : Int) (l : List S53) (h : bchk seq ev l = 0) : getS (putN (u64N seq) (u64N ev) l) = (seq, ev, l, 0) := by
  have hl := bchk_len h
  obtain ⟨⟨s1, s2, e1, e2⟩, hf⟩ := bchk_zero h
  have hs : u64N seq = seq.toNat := by unfold u64N; omega
  have he : u64N ev = ev.toNat := by unfold u64N; omega
  have h0 : (putN (u64N seq) (u64N ev) l).getD 0 0 = 76 := rfl
  have h1 : (putN (u64N seq) (u64N ev) l).getD 1 0 = 66 := rfl
  have h10 : (putN (u64N seq) (u64N ev) l).getD 10 0 = l.length := by
    have : (putN (u64N seq) (u64N ev) l).getD 10 0 = l.length % 256 := rfl
    rw [this]; omega
  have hq : ((putN (u64N seq) (u64N ev) l).take 6).drop 2 = leb 4 (u64N seq) := rfl
  have hv : ((putN (u64N seq) (u64N ev) l).take 10).drop 6 = leb 4 (u64N ev) := rfl
  have hb : (bodyN (u64N seq) (u64N ev) l).drop 11 = linesB l := rfl
  have p4 : (256 : Nat) ^ 4 = 4294967296 := by decide
  unfold getS
  rw [putN_take, putN_drop, val_sum _ (bodyN_lt _ _ _), h0, h1, h10, hq, hv, hb, val_leb, val_leb, parse_lines l hf, putN_len, p4, if_neg (by omega), if_neg (by simp), if_neg (by omega), if_neg (by omega), if_neg (by simp)]
  have a1 : ((u64N seq % 4294967296 : Nat) : Int) = seq := by omega
  have a2 : ((u64N ev % 4294967296 : Nat) : Int) = ev := by omega
  rw [a1, a2, if_pos h]
/-- What is got otherwise is nothing. -/
theorem getS_or (x : List Nat) : (∃ e, e ≠ 0 ∧ getS x = (0, 0, [], e)) ∨ (x.length = 15 + 9 * x.getD 10 0 ∧ val (x.drop (x.length - 4)) = sumN (x.take (x.length - 4)) ∧
    (getS x = (((val ((x.take 6).drop 2) : Nat) : Int), ((val ((x.take 10).drop 6) : Nat) : Int), parseN (x.getD 10 0) ((x.take (x.length - 4)).drop 11), 0) ∧ x.getD 0 0 = 76 ∧ x.getD 1 0 = 66 ∧ bchk (val ((x.take 6).drop 2) : Nat) (val ((x.take 10).drop 6) : Nat) (parseN (x.getD 10 0) ((x.take (x.length - 4)).drop 11)) = 0)) := by
  unfold getS
  by_cases c1 : x.length < 15
  · left; exact ⟨14, by decide, by rw [if_pos c1]⟩
  rw [if_neg c1]
  by_cases c2 : ¬ (x.getD 0 0 = 76 ∧ x.getD 1 0 = 66)
  · left; exact ⟨6, by decide, by rw [if_pos c2]⟩
  rw [if_neg c2]
  by_cases c3 : x.length < 15 + 9 * x.getD 10 0
  · left; exact ⟨14, by decide, by rw [if_pos c3]⟩
  rw [if_neg c3]
  by_cases c4 : x.length > 15 + 9 * x.getD 10 0
  · left; exact ⟨6, by decide, by rw [if_pos c4]⟩
  rw [if_neg c4]
  by_cases c5 : val (x.drop (x.length - 4)) ≠ sumN (x.take (x.length - 4))
  · left; exact ⟨7, by decide, by rw [if_pos c5]⟩
  rw [if_neg c5]
  by_cases c6 : bchk (val ((x.take 6).drop 2) : Nat) (val ((x.take 10).drop 6) : Nat) (parseN (x.getD 10 0) ((x.take (x.length - 4)).drop 11)) = 0
  · right
    rw [if_pos c6]
    have c2' := Classical.not_not.mp c2
    exact ⟨by omega, Classical.not_not.mp c5, rfl, c2'.1, c2'.2, c6⟩
  · left; exact ⟨6, by decide, by rw [if_neg c6]⟩
/-- With a byte turned it isn't got. -/
theorem get_turned (s e : Nat) (l : List S53) (i y : Nat) (hy : y < 256) (hi : i < (putN s e l).length) (hne : (putN s e l)[i]? ≠ some y) : ∃ c, c ≠ 0 ∧ getS ((putN s e l).set i y) = (0, 0, [], c) := by
  rcases getS_or ((putN s e l).set i y) with h | ⟨_, h, _⟩
  · exact h
  · exfalso
    rw [List.length_set] at h
    have hlen := putN_len s e l
    by_cases c : i < (putN s e l).length - 4
    · rw [List.drop_set_of_lt c, putN_drop, val_sum _ (bodyN_lt _ _ _), List.take_set, putN_take] at h
      have hbl : i < (bodyN s e l).length := by rw [bodyN_len]; omega
      refine sumN_turn (bodyN s e l) i y (bodyN_lt _ _ _) hy hbl ?_ h.symm
      rw [putN, List.getElem?_append_left hbl] at hne
      exact hne
    · have ht : ((putN s e l).set i y).take ((putN s e l).length - 4) = bodyN s e l := by
        rw [List.take_set, List.set_eq_of_length_le (by rw [List.length_take]; omega), putN_take]
      have hd : ((putN s e l).set i y).drop ((putN s e l).length - 4) = (leb 4 (sumN (bodyN s e l))).set (i - ((putN s e l).length - 4)) y := by
        rw [List.drop_set, if_neg (by omega), putN_drop]
      rw [ht, hd] at h
      have hbl := bodyN_len s e l
      have hil : i - ((putN s e l).length - 4) < 4 := by omega
      have h1 := leb_val ((leb 4 (sumN (bodyN s e l))).set (i - ((putN s e l).length - 4)) y) (fun x hx => by
        rcases List.mem_or_eq_of_mem_set hx with h | rfl
        · exact leb_lt _ _ x h
        · exact hy)
      rw [List.length_set, leb_len, h] at h1
      have h2 : (leb 4 (sumN (bodyN s e l)))[i - ((putN s e l).length - 4)]? = some y := by
        conv => lhs; rw [h1]
        rw [List.getElem?_set_self (by rw [leb_len]; exact hil)]
      rw [putN, List.getElem?_append_right (by omega)] at hne
      apply hne
      rw [show i - (bodyN s e l).length = i - ((putN s e l).length - 4) by omega]
      exact h2
theorem alive_at (k : Nat) (hk : 600 ≤ k) : lombardlaw18_alive.f k = some true := by
  have e : putS 1 0 [] = (ints (putN 1 0 []), 0) := rfl
  have hg : getS (putN 1 0 []) = (1, 0, [], 0) := get_put 1 0 [] rfl
  have hs : sumN [49, 50, 51, 52, 53, 54, 55, 56, 57] = 3421780262 := by decide +kernel
  unfold lombardlaw18_alive.f
  rw [Put_at k 1 0 [] (by omega), Option.bind_some, e]
  dsimp only
  rw [Get_at k _ (putN_lt _ _ _) (by rw [putN_len]; simp) hk, Option.bind_some, hg, show ([49, 50, 51, 52, 53, 54, 55, 56, 57] : List Int) = ints [49, 50, 51, 52, 53, 54, 55, 56, 57] from rfl, Sum_at _ (by decide) (by decide), Option.bind_some, hs, if_pos ⟨rfl, rfl, by rw [ints_len, putN_len]; rfl, rfl, rfl⟩]
end Go.Proofs.Ytepgponpnijonaa.Print
